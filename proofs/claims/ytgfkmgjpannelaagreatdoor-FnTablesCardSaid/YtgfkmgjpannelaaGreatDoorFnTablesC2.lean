/- Fn Tables: what each call returns, part 2. -/
import Derived.Test.YtgfkmgjpannelaaGreatDoorFnTablesC1
set_option maxRecDepth 100000
set_option maxHeartbeats 2000000
open Go.Proofs.Tryz Go.Proofs.YtgfkmgjpannelaaGreatDoor.Tryz
set_option linter.unusedVariables false
set_option linter.unusedSimpArgs false
namespace Go.Proofs.YtgfkmgjpannelaaGreatDoor
open Go.RowKit Go.X
theorem c_i_GoodTable {A1 : Option Addr} {c1 : Nat} {A2 : Option Addr} {c2 : Nat} {w : World} (p_0 : DTable) (h1 : RdS w (Iv 0 w.heap.size) (RF e_Str) 1 A1 p_0.Cols.length c1 p_0.Cols) (h2 : RdS w (Iv 0 w.heap.size) (RF e_Idx) 3 A2 p_0.Idxs.length c2 p_0.Idxs) (o3 : ok_Table p_0) : Cal Tryz.prog 13 #[.agg #[.string (bs (p_0.Name)), .slice A1 p_0.Cols.length c1, .slice A2 p_0.Idxs.length c2]] w fun v w' => v = .bool ((i_GoodTable p_0)) ∧ Ex w w' := by
 have hol4 : p_0.Name.length ≤ 1073741824 := o3.1
 have hol5 := o3.2.1.1
 have hol6 := o3.2.2.1
 refine Cal.of func13 rfl ntmps13 rfl (cR (sd rfl (yl_box rfl rfl rfl ?_)))
 intro b7 w8 hs9 hz10 hB11 hE12
 refine sA rfl (dn (CW.seq (cR (sd rfl (yl_fieldAddr fd26_0 rfl rfl (sd rfl (yl_load1 ty9 rfl rfl ((hB11.cell 0).trans rfl) (sd rfl (yC en36 rfl (oc rfl (oc rfl oz)) (Cal.mono (c_i_areLetters p_0.Name 1 o3.1) ?_))))))))))
 rintro v14 w13 ⟨rfl, hE15⟩
 have hE15z := Ex.size hE15
 refine sd rfl (yl_not rfl rfl (sM rfl (bcase (i_areLetters p_0.Name 1) (fun hb16 => ?_) (fun hb16 => ?_))))
 ·refine sy rfl rfl (not_t hb16) (yl_fieldAddr fd26_1 rfl rfl ?_)
  have q17 := Box.ex hB11 hE15
  refine sy rfl rfl (not_t hb16) (yl_load1 ty23 rfl rfl ((q17.cell 1).trans rfl) (sy rfl rfl (not_t hb16) (yL un23 rfl rfl (sy rfl rfl (not_t hb16) (yC en37 rfl (oc rfl (oc rfl (oc rfl oz))) (Cal.mono (c_i_within (p_0.Cols.length : Int) 2 4) ?_))))))
  rintro v19 w18 ⟨rfl, hE20⟩
  have hE20z := Ex.size hE20
  refine sy rfl rfl (not_t hb16) (yl_not rfl rfl (sd rfl (yl_pick_f rfl rfl (not_t hb16) rfl (sM rfl (bcase (i_within (p_0.Cols.length : Int) 2 4) (fun hb21 => ?_) (fun hb21 => ?_))))))
  ·have hb21p := f_within hb21
   refine sy rfl rfl (not_t hb21) (yl_fieldAddr fd26_2 rfl rfl ?_)
   have q22 := Box.ex q17 hE20
   refine sy rfl rfl (not_t hb21) (yl_load1 ty24 rfl rfl ((q22.cell 2).trans rfl) (sy rfl rfl (not_t hb21) (yL un24 rfl rfl (sy rfl rfl (not_t hb21) (yl_gtr rfl rfl rfl (sd rfl (yl_pick_f rfl rfl (not_t hb21) rfl (dn (bcase (decide (3 < (p_0.Idxs.length : Int))) (fun hb23 => ?_) (fun hb23 => ?_))))))))))
   ·have hb23p := dec_t hb23
    refine CW.cond_t rfl hb23 (cR (sA rfl (dn (CW.ret (tr (rr rfl (.cons rfl .nil) ?_))))))
    have hM24 : (i_GoodTable p_0) = (false) := by simp only [i_GoodTable, hb16, hb21, hb23, cL]
    rw [hM24]
    exact ⟨rfl, (Ex.trans (Ex.trans (Ex.trans (Ex.refl w) hE12) hE15) hE20)⟩
   ·have hb23p := dec_f hb23
    refine CW.cond_f rfl hb23 (CW.skip (tn (CW.seq (cR (sd rfl (yl_fieldAddr fd26_1 rfl rfl (sd rfl (yl_load1 ty23 rfl rfl ((q22.cell 1).trans rfl) (sd rfl (yL un23 rfl rfl ?_))))))))))
    refine sM rfl (dn (CW.block (CW.loop (fun m29 L30 w31 => ∃ (k28 : Nat), m29 = p_0.Cols.length - k28 ∧ k28 ≤ p_0.Cols.length ∧ w18.heap.size ≤ w31.heap.size ∧ lkp L30 1 = some (.pointer (some ⟨b7, 0, none⟩)) ∧ lkp L30 25 = some (.slice A1 p_0.Cols.length c1) ∧ lkp L30 26 = some (.int .i64 ((p_0.Cols.length : Int))) ∧ lkp L30 27 = some (.int .i64 ((k28 : Int))) ∧ Box w31 b7 26 [.string (bs (p_0.Name)), .slice A1 p_0.Cols.length c1, .slice A2 p_0.Idxs.length c2] ∧ RdS w31 (Iv 0 w.heap.size) (RF e_Str) 1 A1 p_0.Cols.length c1 p_0.Cols ∧ RdS w31 (Iv 0 w.heap.size) (RF e_Idx) 3 A2 p_0.Idxs.length c2 p_0.Idxs ∧ Ex w w31 ∧ loopM (B_i_GoodTable_0 p_0) (p_0.Cols.length - k28) k28 () = loopM (B_i_GoodTable_0 p_0) (p_0.Cols.length - 0) 0 ()) (p_0.Cols.length - 0) ?_ ?_)))
    ·exact ⟨0, rfl, oM, Nat.le_refl _, rfl, rfl, rfl, rfl, q22, (RdS.ex gS (RdS.ex gS (RdS.ex gS h1 hE12) hE15) hE20), (RdS.ex gI (RdS.ex gI (RdS.ex gI h2 hE12) hE15) hE20), (Ex.trans (Ex.trans (Ex.trans (Ex.refl w) hE12) hE15) hE20), rfl⟩
    ·rintro m41 L42 w43 ⟨k28, rfl, hk44, hsz46, hl47, hl48, hl49, hl50, hf51, hf52, hf53, hf54, hI45⟩
     refine CW.sub (Sub.cons hl47 (Sub.cons hl48 (Sub.cons hl49 (Sub.cons hl50 (Sub.nil _))))) ?_
     have hf51z := Box.lt hf51
     have hf54z := Ex.size hf54
     have hbg55 := RdS.big hf52
     rcases Nat.lt_or_ge k28 p_0.Cols.length with hlt56 | hlt56
     ·refine cR (sd rfl (yl_lss rfl rfl rfl (dn (CW.seq (CW.cond_t rfl (lt_t hlt56) (CW.skip (tn ?_)))))))
      refine CW.seq (CW.block (cR (sM rfl ?_)))
      obtain ⟨eb57, eo57, _, eA57, _, ebl57, _, eR57, eC57⟩ := RdS.aD hf52 d_Str (i := k28)
      obtain rfl := eR57
      have eC57 : Cells w43 eb57 (eo57 + k28 * 1) [.string (bs ((p_0.Cols.getD k28 d_Str)))] := eC57
      refine sd rfl (yl_ixN un23 ty9 rfl rfl rfl eA57 (sd rfl (yl_load1 ty9 rfl rfl (eC57 0 _ rfl) (sA rfl (sA rfl (dn (cR (sM rfl ?_))))))))
      refine sd rfl (yC en36 rfl (oc rfl (oc rfl oz)) (Cal.mono (c_i_areLetters (p_0.Cols.getD k28 d_Str) 3 (okL.getD o3.2.1 ok_d_Str _)) ?_))
      rintro v59 w58 ⟨rfl, hE60⟩
      have hE60z := Ex.size hE60
      refine sd rfl (yl_not rfl rfl (sM rfl (bcase (i_areLetters (p_0.Cols.getD k28 d_Str) 3) (fun hb61 => ?_) (fun hb61 => ?_))))
      ·refine sy rfl rfl (not_t hb61) (yl_fieldAddr fd26_1 rfl rfl ?_)
       have q62 := Box.ex hf51 hE60
       refine sy rfl rfl (not_t hb61) (yl_load1 ty23 rfl rfl ((q62.cell 1).trans rfl) (sy rfl rfl (not_t hb61) (yM rfl rfl ?_)))
       have q63 := RdS.ex gS hf52 hE60
       obtain ⟨A64, c65, he68, h67⟩ := RdS.sl (RdS.drop (RdS.take q63 (k := k28) oM) (k := 0) oM)
       have hrc69 := (q63).2.1
       refine sy rfl rfl (not_t hb61) (yl_sliceR (kl := .i64) (l := 0) (h := k28) un23 ty9 rfl rfl (.inl ⟨rfl, rfl⟩) (.inr ⟨_, rfl, rfl⟩) oM oM he68 (sy rfl rfl (not_t hb61) (yM rfl rfl (sy rfl rfl (not_t hb61) (yC en38 rfl (oc rfl (oc rfl oz)) (Cal.mono (c_g_slices_Contains_string (p_0.Cols.take k28) (p_0.Cols.getD k28 d_Str) (RdS.up h67 gS) (okL.take o3.2.1 _) (okL.getD o3.2.1 ok_d_Str _)) ?_))))))
       rintro v71 w70 ⟨rfl, hE72⟩
       have hE72z := Ex.size hE72
       refine sd rfl (yl_pick_f rfl rfl (not_t hb61) rfl (dn (bcase (g_slices_Contains_string (p_0.Cols.take k28) (p_0.Cols.getD k28 d_Str)) (fun hb73 => ?_) (fun hb73 => ?_))))
       ·refine CW.cond_t rfl hb73 (cR (sA rfl (dn (CW.ret (br (tr ?_))))))
        refine tr ?_
        have hB75 : B_i_GoodTable_0 p_0 k28 () = .ret false := by simp only [B_i_GoodTable_0, hb16, hb21, hb23, hb61, hb73, cL]
        have hL74 : loopM (B_i_GoodTable_0 p_0) (p_0.Cols.length - 0) 0 () = .ret false := hI45.symm.trans (loopM.ret hlt56 hB75)
        refine br (tr (rr rfl (.cons rfl .nil) ?_))
        have hM76 : (i_GoodTable p_0) = (false) := by simp only [i_GoodTable, hb16, hb21, hb23, hb61, hb73, hL74, cL]
        rw [hM76]
        exact ⟨rfl, (Ex.trans (Ex.trans hf54 hE60) hE72)⟩
       ·refine CW.cond_f rfl hb73 (CW.skip (bn (tn (CW.region (sd rfl (yl_inc rfl rfl rfl oM (sM rfl (dn ?_))))))))
        have hB79 : B_i_GoodTable_0 p_0 k28 () = .cont () := by simp only [B_i_GoodTable_0, hb16, hb21, hb23, hb61, hb73, cL]
        exact ⟨p_0.Cols.length - (k28 + 1), oM, k28 + 1, rfl, hlt56, oM, rfl, rfl, rfl, rfl, (Box.ex q62 hE72), (RdS.ex gS q63 hE72), (RdS.ex gI (RdS.ex gI hf53 hE60) hE72), (Ex.trans (Ex.trans hf54 hE60) hE72), (loopM.cont hlt56 hB79).symm.trans hI45⟩
      ·refine sz rfl rfl (not_f hb61) (sz rfl rfl (not_f hb61) (sz rfl rfl (not_f hb61) (sz rfl rfl (not_f hb61) (sz rfl rfl (not_f hb61) (sz rfl rfl (not_f hb61) (sd rfl (yl_pick_t rfl rfl (not_f hb61) rfl (dn ?_))))))))
       refine CW.cond_t rfl rfl (cR (sA rfl (dn (CW.ret (br (tr ?_))))))
       refine tr ?_
       have hB87 : B_i_GoodTable_0 p_0 k28 () = .ret false := by simp only [B_i_GoodTable_0, hb16, hb21, hb23, hb61, cL]
       have hL86 : loopM (B_i_GoodTable_0 p_0) (p_0.Cols.length - 0) 0 () = .ret false := hI45.symm.trans (loopM.ret hlt56 hB87)
       refine br (tr (rr rfl (.cons rfl .nil) ?_))
       have hM88 : (i_GoodTable p_0) = (false) := by simp only [i_GoodTable, hb16, hb21, hb23, hb61, hL86, cL]
       rw [hM88]
       exact ⟨rfl, (Ex.trans hf54 hE60)⟩
     ·refine cR (sd rfl (yl_lss rfl rfl rfl (dn (CW.seq (CW.cond_f rfl (lt_f hlt56) (CW.exit (tx ?_)))))))
      refine tx ?_
      have hL90 : loopM (B_i_GoodTable_0 p_0) (p_0.Cols.length - 0) 0 () = .done () := hI45.symm.trans (loopM.stop hlt56)
      refine bx (tn (CW.seq (cR (sd rfl (yl_fieldAddr fd26_2 rfl rfl (sd rfl (yl_load1 ty24 rfl rfl ((hf51.cell 2).trans rfl) (sd rfl (yL un24 rfl rfl (sM rfl ?_))))))))))
      refine dn (CW.block (CW.loop (fun m129 L130 w131 => ∃ (k91 : Nat), m129 = p_0.Idxs.length - k91 ∧ k91 ≤ p_0.Idxs.length ∧ w43.heap.size ≤ w131.heap.size ∧ lkp L130 1 = some (.pointer (some ⟨b7, 0, none⟩)) ∧ lkp L130 45 = some (.slice A2 p_0.Idxs.length c2) ∧ lkp L130 46 = some (.int .i64 ((p_0.Idxs.length : Int))) ∧ lkp L130 47 = some (.int .i64 ((k91 : Int))) ∧ Box w131 b7 26 [.string (bs (p_0.Name)), .slice A1 p_0.Cols.length c1, .slice A2 p_0.Idxs.length c2] ∧ RdS w131 (Iv 0 w.heap.size) (RF e_Str) 1 A1 p_0.Cols.length c1 p_0.Cols ∧ RdS w131 (Iv 0 w.heap.size) (RF e_Idx) 3 A2 p_0.Idxs.length c2 p_0.Idxs ∧ Ex w w131 ∧ loopM (B_i_GoodTable_1 p_0) (p_0.Idxs.length - k91) k91 () = loopM (B_i_GoodTable_1 p_0) (p_0.Idxs.length - 0) 0 ()) (p_0.Idxs.length - 0) ?_ ?_))
      ·exact ⟨0, rfl, oM, Nat.le_refl _, rfl, rfl, rfl, rfl, hf51, hf52, hf53, hf54, rfl⟩
      ·rintro m132 L133 w134 ⟨k91, rfl, hk135, hsz137, hl138, hl139, hl140, hl141, hf142, hf143, hf144, hf145, hI136⟩
       refine CW.sub (Sub.cons hl138 (Sub.cons hl139 (Sub.cons hl140 (Sub.cons hl141 (Sub.nil _))))) ?_
       have hf142z := Box.lt hf142
       have hf145z := Ex.size hf145
       have hbg146 := RdS.big hf144
       rcases Nat.lt_or_ge k91 p_0.Idxs.length with hlt147 | hlt147
       ·refine cR (sd rfl (yl_lss rfl rfl rfl (dn (CW.seq (CW.cond_t rfl (lt_t hlt147) (CW.skip (tn ?_)))))))
        refine CW.seq (CW.block (cR (sM rfl ?_)))
        obtain ⟨eb148, eo148, _, eA148, _, ebl148, _, eR148, eC148⟩ := RdS.aD hf144 d_Idx (i := k91)
        obtain rfl := eR148
        have eC148 : Cells w134 eb148 (eo148 + k91 * 3) [.string (bs ((p_0.Idxs.getD k91 d_Idx).Name)), .int .i64 ((p_0.Idxs.getD k91 d_Idx).Col), .int .i64 ((p_0.Idxs.getD k91 d_Idx).Stage)] := eC148
        refine sd rfl (yl_ixN un24 ty35 rfl rfl rfl eA148 (sd rfl (yl_loadN ty35 rfl rfl eC148 rfl (sd rfl (yB ty35 (cs := [.string (bs (([] : Str))), .int .i64 (0), .int .i64 (0)]) rfl rfl ?_)))))
        intro b149 w150 hs151 hz152 hB153 hE154
        refine sA rfl (SeqR.u rfl rfl (yl_store (vs := [.string (bs ((p_0.Idxs.getD k91 d_Idx).Name)), .int .i64 ((p_0.Idxs.getD k91 d_Idx).Col), .int .i64 ((p_0.Idxs.getD k91 d_Idx).Stage)]) ty35 rfl rfl rfl rfl rfl rfl hB153 (nb rfl) ?_))
        intro w155 hB156 hO157
        have hB156 : Box w155 b149 35 [.string (bs ((p_0.Idxs.getD k91 d_Idx).Name)), .int .i64 ((p_0.Idxs.getD k91 d_Idx).Col), .int .i64 ((p_0.Idxs.getD k91 d_Idx).Stage)] := hB156
        have hO157z := hO157.size
        refine dn (CW.seq (bcase (i_areLetters ((p_0.Idxs.getD k91 d_Idx).Name) 1) (fun hb159 => ?_) (fun hb159 => ?_)))
        ·refine bcase (i_within ((p_0.Idxs.getD k91 d_Idx).Col) 1 (IntKind.wrap .i64 ((p_0.Cols.length : Int) - 1))) (fun hb164 => ?_) (fun hb164 => ?_)
         ·have hb164p := f_within hb164
          refine bcase (i_isStage ((p_0.Idxs.getD k91 d_Idx).Stage)) (fun hb170 => ?_) (fun hb170 => ?_)
          ·have hb170p := f_i_isStage hb170
           refine bcase (decide (0 < (k91 : Int))) (fun hb176 => ?_) (fun hb176 => ?_)
           ·have hb176p := dec_t hb176
            have q179 := Box.only (Box.ex hf142 hE154) hO157 oM
            have q183 := RdS.only gI (RdS.ex gI hf144 hE154) hO157 (by simp only [Iv]; omega)
            obtain ⟨eb184, eo184, _, eA184, _, ebl184, _, eR184, eC184⟩ := RdS.atD q183 d_Idx (i := (IntKind.wrap .i64 ((k91 : Int) - 1)).toNat) Bo
            obtain rfl := eR184
            have eC184 : Cells w155 eb184 (eo184 + ((IntKind.wrap .i64 ((k91 : Int) - 1)).toNat) * 3) [.string (bs ((p_0.Idxs.getD ((IntKind.wrap .i64 ((k91 : Int) - 1)).toNat) d_Idx).Name)), .int .i64 ((p_0.Idxs.getD ((IntKind.wrap .i64 ((k91 : Int) - 1)).toNat) d_Idx).Col), .int .i64 ((p_0.Idxs.getD ((IntKind.wrap .i64 ((k91 : Int) - 1)).toNat) d_Idx).Stage)] := eC184
            refine drI 36 [.pointer (some ⟨b149, 0 + 0, none⟩), .string (bs ((p_0.Idxs.getD k91 d_Idx).Name)), .bool ((i_areLetters ((p_0.Idxs.getD k91 d_Idx).Name) 1)), .bool (!(i_areLetters ((p_0.Idxs.getD k91 d_Idx).Name) 1)), .bool (!(i_areLetters ((p_0.Idxs.getD k91 d_Idx).Name) 1)), .pointer (some ⟨b149, 0 + 1, none⟩), .int .i64 ((p_0.Idxs.getD k91 d_Idx).Col), .pointer (some ⟨b7, 0 + 1, none⟩), .slice A1 p_0.Cols.length c1, .int .i64 ((p_0.Cols.length : Int)), .int .i64 (IntKind.wrap .i64 ((p_0.Cols.length : Int) - 1)), .bool ((i_within ((p_0.Idxs.getD k91 d_Idx).Col) 1 (IntKind.wrap .i64 ((p_0.Cols.length : Int) - 1)))), .bool (!(i_within ((p_0.Idxs.getD k91 d_Idx).Col) 1 (IntKind.wrap .i64 ((p_0.Cols.length : Int) - 1)))), .bool (!(i_within ((p_0.Idxs.getD k91 d_Idx).Col) 1 (IntKind.wrap .i64 ((p_0.Cols.length : Int) - 1)))), .bool (!(i_within ((p_0.Idxs.getD k91 d_Idx).Col) 1 (IntKind.wrap .i64 ((p_0.Cols.length : Int) - 1)))), .pointer (some ⟨b149, 0 + 2, none⟩), .int .i64 ((p_0.Idxs.getD k91 d_Idx).Stage), .bool ((i_isStage ((p_0.Idxs.getD k91 d_Idx).Stage))), .bool (!(i_isStage ((p_0.Idxs.getD k91 d_Idx).Stage))), .bool (!(i_isStage ((p_0.Idxs.getD k91 d_Idx).Stage))), .bool (!(i_isStage ((p_0.Idxs.getD k91 d_Idx).Stage))), .int .i64 ((k91 : Int)), .bool (decide (0 < (k91 : Int))), .bool (decide (0 < (k91 : Int))), .pointer (some ⟨b149, 0 + 0, none⟩), .string (bs ((p_0.Idxs.getD k91 d_Idx).Name)), .pointer (some ⟨b7, 0 + 2, none⟩), .slice A2 p_0.Idxs.length c2, .int .i64 ((k91 : Int)), .int .i64 (IntKind.wrap .i64 ((k91 : Int) - 1)), .pointer (some ⟨eb184, eo184 + ((IntKind.wrap .i64 ((k91 : Int) - 1)).toNat) * 3, none⟩), .pointer (some ⟨eb184, eo184 + ((IntKind.wrap .i64 ((k91 : Int) - 1)).toNat) * 3 + 0, none⟩), .string (bs ((p_0.Idxs.getD ((IntKind.wrap .i64 ((k91 : Int) - 1)).toNat) d_Idx).Name)), .bool (sLe ((p_0.Idxs.getD k91 d_Idx).Name) ((p_0.Idxs.getD ((IntKind.wrap .i64 ((k91 : Int) - 1)).toNat) d_Idx).Name)), .bool (sLe ((p_0.Idxs.getD k91 d_Idx).Name) ((p_0.Idxs.getD ((IntKind.wrap .i64 ((k91 : Int) - 1)).toNat) d_Idx).Name)), .bool (sLe ((p_0.Idxs.getD k91 d_Idx).Name) ((p_0.Idxs.getD ((IntKind.wrap .i64 ((k91 : Int) - 1)).toNat) d_Idx).Name))] Tryz.follows rfl ⟨?_, ?_, ?_, ?_, ?_, ?_, ?_, ?_, ?_, ?_, ?_, ?_, ?_, ?_, ?_, ?_, ?_, ?_, ?_, ?_, ?_, ?_, ?_, ?_, ?_, ?_, ?_, ?_, ?_, ?_, ?_, ?_, ?_, ?_, ?_, ?_, trivial⟩ ?_
            ·exact oI rfl fun h => yl_fieldAddr fd35_0 rfl (h.old 6 _ rfl rfl) kI
            ·exact oI rfl fun h => yl_load1 ty9 rfl (h.dt 0 52 rfl rfl rfl) (((Box.ex hB156 h.ex).cell 0).trans rfl) kI
            ·intro L196 w197 hi198
             exact OpR.op' rfl (yC en36 rfl (oc (hi198.dt 1 53 rfl rfl rfl) (oc rfl oz)) (Cal.mono (c_i_areLetters ((p_0.Idxs.getD k91 d_Idx).Name) 1 (okL.getD o3.2.2 ok_d_Idx _)) fun _ _ h => h))
            ·exact oI rfl fun h => yl_not rfl (h.dt 2 54 rfl rfl rfl) kI
            ·exact oI rfl fun h => yM rfl (h.dt 3 55 rfl rfl rfl) kI
            ·exact oW rfl rfl rfl rfl (not_t hb159) fun h => yl_fieldAddr fd35_1 rfl (h.old 6 _ rfl rfl) kI
            ·exact oW rfl rfl rfl rfl (not_t hb159) fun h => yl_load1 ty3 rfl (h.dt 5 57 rfl rfl rfl) (((Box.ex hB156 h.ex).cell 1).trans rfl) kI
            ·exact oW rfl rfl rfl rfl (not_t hb159) fun h => yl_fieldAddr fd26_1 rfl (h.old 1 _ rfl rfl) kI
            ·exact oW rfl rfl rfl rfl (not_t hb159) fun h => yl_load1 ty23 rfl (h.dt 7 59 rfl rfl rfl) (((Box.ex q179 h.ex).cell 1).trans rfl) kI
            ·exact oW rfl rfl rfl rfl (not_t hb159) fun h => yL un23 rfl (h.dt 8 60 rfl rfl rfl) kI
            ·exact oW rfl rfl rfl rfl (not_t hb159) fun h => yl_sub rfl (h.dt 9 61 rfl rfl rfl) rfl kI
            ·intro L252 w253 hi254
             exact OpR.want rfl rfl (hi254.dt 4 56 rfl rfl rfl) (not_t hb159) (yC en37 rfl (oc (hi254.dt 6 58 rfl rfl rfl) (oc rfl (oc (hi254.dt 10 62 rfl rfl rfl) oz))) (Cal.mono (c_i_within ((p_0.Idxs.getD k91 d_Idx).Col) 1 (IntKind.wrap .i64 ((p_0.Cols.length : Int) - 1))) fun _ _ h => h))
            ·exact oW rfl rfl rfl rfl (not_t hb159) fun h => yl_not rfl (h.dt 11 63 rfl rfl rfl) kI
            ·exact oI rfl fun h => yl_pick_f rfl (h.dt 4 56 rfl rfl rfl) (not_t hb159) (h.dt 12 64 rfl rfl rfl) kI
            ·exact oI rfl fun h => yM rfl (h.dt 13 65 rfl rfl rfl) kI
            ·exact oW rfl rfl rfl rfl (not_t hb164) fun h => yl_fieldAddr fd35_2 rfl (h.old 6 _ rfl rfl) kI
            ·exact oW rfl rfl rfl rfl (not_t hb164) fun h => yl_load1 ty3 rfl (h.dt 15 67 rfl rfl rfl) (((Box.ex hB156 h.ex).cell 2).trans rfl) kI
            ·intro L292 w293 hi294
             exact OpR.want rfl rfl (hi294.dt 14 66 rfl rfl rfl) (not_t hb164) (yC en27 rfl (oc (hi294.dt 16 68 rfl rfl rfl) oz) (Cal.mono (c_i_isStage ((p_0.Idxs.getD k91 d_Idx).Stage)) fun _ _ h => h))
            ·exact oW rfl rfl rfl rfl (not_t hb164) fun h => yl_not rfl (h.dt 17 69 rfl rfl rfl) kI
            ·exact oI rfl fun h => yl_pick_f rfl (h.dt 14 66 rfl rfl rfl) (not_t hb164) (h.dt 18 70 rfl rfl rfl) kI
            ·exact oI rfl fun h => yM rfl (h.dt 19 71 rfl rfl rfl) kI
            ·exact oW rfl rfl rfl rfl (not_t hb170) fun h => yM rfl (h.old 5 _ rfl rfl) kI
            ·exact oW rfl rfl rfl rfl (not_t hb170) fun h => yl_gtr rfl (h.dt 21 73 rfl rfl rfl) rfl kI
            ·exact oW rfl rfl rfl rfl (not_t hb170) fun h => yM rfl (h.dt 22 74 rfl rfl rfl) kI
            ·exact oW rfl rfl rfl rfl hb176 fun h => yl_fieldAddr fd35_0 rfl (h.old 6 _ rfl rfl) kI
            ·exact oW rfl rfl rfl rfl hb176 fun h => yl_load1 ty9 rfl (h.dt 24 76 rfl rfl rfl) (((Box.ex hB156 h.ex).cell 0).trans rfl) kI
            ·exact oW rfl rfl rfl rfl hb176 fun h => yl_fieldAddr fd26_2 rfl (h.old 1 _ rfl rfl) kI
            ·exact oW rfl rfl rfl rfl hb176 fun h => yl_load1 ty24 rfl (h.dt 26 78 rfl rfl rfl) (((Box.ex q179 h.ex).cell 2).trans rfl) kI
            ·exact oW rfl rfl rfl rfl hb176 fun h => yM rfl (h.old 5 _ rfl rfl) kI
            ·exact oW rfl rfl rfl rfl hb176 fun h => yl_sub rfl (h.dt 28 80 rfl rfl rfl) rfl kI
            ·intro L374 w375 hi376
             have hE377 := hi376.ex
             have hE377z := Ex.size hE377
             exact OpR.want rfl rfl (hi376.dt 23 75 rfl rfl rfl) hb176 (Yl.sameI (yl_indexAddr un24 ty35 rfl (hi376.dt 27 79 rfl rfl rfl) (hi376.dt 29 81 rfl rfl rfl) eA184 Bo Bo kI))
            ·exact oW rfl rfl rfl rfl hb176 fun h => yl_fieldAddr fd35_0 rfl (h.dt 30 82 rfl rfl rfl) kI
            ·exact oW rfl rfl rfl rfl hb176 fun h => yl_load1 ty9 rfl (h.dt 31 83 rfl rfl rfl) ((Cells.ex eC184 h.ex) 0 _ rfl) kI
            ·exact oW rfl rfl rfl rfl hb176 fun h => yl_sleq (a := ((p_0.Idxs.getD k91 d_Idx).Name)) (b := ((p_0.Idxs.getD ((IntKind.wrap .i64 ((k91 : Int) - 1)).toNat) d_Idx).Name)) rfl (h.dt 25 77 rfl rfl rfl) (h.dt 32 84 rfl rfl rfl) kI
            ·exact oW rfl rfl rfl rfl (not_t hb170) fun h => yl_pick_t rfl (h.dt 23 75 rfl rfl rfl) hb176 (h.dt 33 85 rfl rfl rfl) kI
            ·exact oI rfl fun h => yl_pick_f rfl (h.dt 20 72 rfl rfl rfl) (not_t hb170) (h.dt 34 86 rfl rfl rfl) kI
            ·intro fl417 fh418 L414 w415 hp416
             have hE419 := hp416.ex
             have hE419z := Ex.size hE419
             refine dn (CW.sub (sC 1 (hp416.old 1 _ rfl rfl) (sC 45 (hp416.old 45 _ rfl rfl) (sC 46 (hp416.old 46 _ rfl rfl) (sC 47 (hp416.old 47 _ rfl rfl) (sC 57 (hp416.nt 5 57 rfl rfl rfl) (sC 58 (hp416.nt 6 58 rfl rfl rfl) (sC 59 (hp416.nt 7 59 rfl rfl rfl) (sC 60 (hp416.nt 8 60 rfl rfl rfl) (sC 61 (hp416.nt 9 61 rfl rfl rfl) (sC 62 (hp416.nt 10 62 rfl rfl rfl) (sC 63 (hp416.nt 11 63 rfl rfl rfl) (sC 64 (hp416.nt 12 64 rfl rfl rfl) (sC 67 (hp416.nt 15 67 rfl rfl rfl) (sC 68 (hp416.nt 16 68 rfl rfl rfl) (sC 69 (hp416.nt 17 69 rfl rfl rfl) (sC 70 (hp416.nt 18 70 rfl rfl rfl) (sC 73 (hp416.nt 21 73 rfl rfl rfl) (sC 74 (hp416.nt 22 74 rfl rfl rfl) (sC 75 (hp416.nt 23 75 rfl rfl rfl) (sC 76 (hp416.nt 24 76 rfl rfl rfl) (sC 77 (hp416.nt 25 77 rfl rfl rfl) (sC 78 (hp416.nt 26 78 rfl rfl rfl) (sC 79 (hp416.nt 27 79 rfl rfl rfl) (sC 80 (hp416.nt 28 80 rfl rfl rfl) (sC 81 (hp416.nt 29 81 rfl rfl rfl) (sC 82 (hp416.nt 30 82 rfl rfl rfl) (sC 83 (hp416.nt 31 83 rfl rfl rfl) (sC 84 (hp416.nt 32 84 rfl rfl rfl) (sC 85 (hp416.nt 33 85 rfl rfl rfl) (sC 86 (hp416.nt 34 86 rfl rfl rfl) (sC 87 (hp416.nt 35 87 rfl rfl rfl) (Sub.nil _)))))))))))))))))))))))))))))))) ?_)
             refine bcase (sLe ((p_0.Idxs.getD k91 d_Idx).Name) ((p_0.Idxs.getD ((IntKind.wrap .i64 ((k91 : Int) - 1)).toNat) d_Idx).Name)) (fun hb451 => ?_) (fun hb451 => ?_)
             ·refine CW.cond_t rfl hb451 (cR (sA rfl (dn (CW.ret (br (tr ?_))))))
              refine tr ?_
              have hB453 : B_i_GoodTable_1 p_0 k91 () = .ret false := by simp only [B_i_GoodTable_1, hb16, hb21, hb23, hb159, hb164, hb170, hb176, hb451, hL90, cL]
              have hL452 : loopM (B_i_GoodTable_1 p_0) (p_0.Idxs.length - 0) 0 () = .ret false := hI136.symm.trans (loopM.ret hlt147 hB453)
              refine br (tr (rr rfl (.cons rfl .nil) ?_))
              have hM454 : (i_GoodTable p_0) = (false) := by simp only [i_GoodTable, hb16, hb21, hb23, hb159, hb164, hb170, hb176, hb451, hL90, hL452, cL]
              rw [hM454]
              exact ⟨rfl, (Ex.trans (Below.only (Ex.trans hf145 hE154) hO157 oM) hE419)⟩
             ·refine CW.cond_f rfl hb451 (CW.skip (bn (tn (CW.region (sd rfl (yl_inc rfl rfl rfl oM (sM rfl (dn ?_))))))))
              have hB458 : B_i_GoodTable_1 p_0 k91 () = .cont () := by simp only [B_i_GoodTable_1, hb16, hb21, hb23, hb159, hb164, hb170, hb176, hb451, hL90, cL]
              exact ⟨p_0.Idxs.length - (k91 + 1), oM, k91 + 1, rfl, hlt147, oM, rfl, rfl, rfl, rfl, (Box.ex q179 hE419), (RdS.ex gS (RdS.only gS (RdS.ex gS hf143 hE154) hO157 (by simp only [Iv]; omega)) hE419), (RdS.ex gI q183 hE419), (Ex.trans (Below.only (Ex.trans hf145 hE154) hO157 oM) hE419), (loopM.cont hlt147 hB458).symm.trans hI136⟩
           ·have hb176p := dec_f hb176
            have q469 := Box.only (Box.ex hf142 hE154) hO157 oM
            refine drI 36 [.pointer (some ⟨b149, 0 + 0, none⟩), .string (bs ((p_0.Idxs.getD k91 d_Idx).Name)), .bool ((i_areLetters ((p_0.Idxs.getD k91 d_Idx).Name) 1)), .bool (!(i_areLetters ((p_0.Idxs.getD k91 d_Idx).Name) 1)), .bool (!(i_areLetters ((p_0.Idxs.getD k91 d_Idx).Name) 1)), .pointer (some ⟨b149, 0 + 1, none⟩), .int .i64 ((p_0.Idxs.getD k91 d_Idx).Col), .pointer (some ⟨b7, 0 + 1, none⟩), .slice A1 p_0.Cols.length c1, .int .i64 ((p_0.Cols.length : Int)), .int .i64 (IntKind.wrap .i64 ((p_0.Cols.length : Int) - 1)), .bool ((i_within ((p_0.Idxs.getD k91 d_Idx).Col) 1 (IntKind.wrap .i64 ((p_0.Cols.length : Int) - 1)))), .bool (!(i_within ((p_0.Idxs.getD k91 d_Idx).Col) 1 (IntKind.wrap .i64 ((p_0.Cols.length : Int) - 1)))), .bool (!(i_within ((p_0.Idxs.getD k91 d_Idx).Col) 1 (IntKind.wrap .i64 ((p_0.Cols.length : Int) - 1)))), .bool (!(i_within ((p_0.Idxs.getD k91 d_Idx).Col) 1 (IntKind.wrap .i64 ((p_0.Cols.length : Int) - 1)))), .pointer (some ⟨b149, 0 + 2, none⟩), .int .i64 ((p_0.Idxs.getD k91 d_Idx).Stage), .bool ((i_isStage ((p_0.Idxs.getD k91 d_Idx).Stage))), .bool (!(i_isStage ((p_0.Idxs.getD k91 d_Idx).Stage))), .bool (!(i_isStage ((p_0.Idxs.getD k91 d_Idx).Stage))), .bool (!(i_isStage ((p_0.Idxs.getD k91 d_Idx).Stage))), .int .i64 ((k91 : Int)), .bool (decide (0 < (k91 : Int))), .bool (decide (0 < (k91 : Int))), undef, undef, undef, undef, undef, undef, undef, undef, undef, undef, .bool (false), .bool (false)] Tryz.follows rfl ⟨?_, ?_, ?_, ?_, ?_, ?_, ?_, ?_, ?_, ?_, ?_, ?_, ?_, ?_, ?_, ?_, ?_, ?_, ?_, ?_, ?_, ?_, ?_, ?_, ?_, ?_, ?_, ?_, ?_, ?_, ?_, ?_, ?_, ?_, ?_, ?_, trivial⟩ ?_
            ·exact oI rfl fun h => yl_fieldAddr fd35_0 rfl (h.old 6 _ rfl rfl) kI
            ·exact oI rfl fun h => yl_load1 ty9 rfl (h.dt 0 52 rfl rfl rfl) (((Box.ex hB156 h.ex).cell 0).trans rfl) kI
            ·intro L483 w484 hi485
             exact OpR.op' rfl (yC en36 rfl (oc (hi485.dt 1 53 rfl rfl rfl) (oc rfl oz)) (Cal.mono (c_i_areLetters ((p_0.Idxs.getD k91 d_Idx).Name) 1 (okL.getD o3.2.2 ok_d_Idx _)) fun _ _ h => h))
            ·exact oI rfl fun h => yl_not rfl (h.dt 2 54 rfl rfl rfl) kI
            ·exact oI rfl fun h => yM rfl (h.dt 3 55 rfl rfl rfl) kI
            ·exact oW rfl rfl rfl rfl (not_t hb159) fun h => yl_fieldAddr fd35_1 rfl (h.old 6 _ rfl rfl) kI
            ·exact oW rfl rfl rfl rfl (not_t hb159) fun h => yl_load1 ty3 rfl (h.dt 5 57 rfl rfl rfl) (((Box.ex hB156 h.ex).cell 1).trans rfl) kI
            ·exact oW rfl rfl rfl rfl (not_t hb159) fun h => yl_fieldAddr fd26_1 rfl (h.old 1 _ rfl rfl) kI
            ·exact oW rfl rfl rfl rfl (not_t hb159) fun h => yl_load1 ty23 rfl (h.dt 7 59 rfl rfl rfl) (((Box.ex q469 h.ex).cell 1).trans rfl) kI
            ·exact oW rfl rfl rfl rfl (not_t hb159) fun h => yL un23 rfl (h.dt 8 60 rfl rfl rfl) kI
            ·exact oW rfl rfl rfl rfl (not_t hb159) fun h => yl_sub rfl (h.dt 9 61 rfl rfl rfl) rfl kI
            ·intro L539 w540 hi541
             exact OpR.want rfl rfl (hi541.dt 4 56 rfl rfl rfl) (not_t hb159) (yC en37 rfl (oc (hi541.dt 6 58 rfl rfl rfl) (oc rfl (oc (hi541.dt 10 62 rfl rfl rfl) oz))) (Cal.mono (c_i_within ((p_0.Idxs.getD k91 d_Idx).Col) 1 (IntKind.wrap .i64 ((p_0.Cols.length : Int) - 1))) fun _ _ h => h))
            ·exact oW rfl rfl rfl rfl (not_t hb159) fun h => yl_not rfl (h.dt 11 63 rfl rfl rfl) kI
            ·exact oI rfl fun h => yl_pick_f rfl (h.dt 4 56 rfl rfl rfl) (not_t hb159) (h.dt 12 64 rfl rfl rfl) kI
            ·exact oI rfl fun h => yM rfl (h.dt 13 65 rfl rfl rfl) kI
            ·exact oW rfl rfl rfl rfl (not_t hb164) fun h => yl_fieldAddr fd35_2 rfl (h.old 6 _ rfl rfl) kI
            ·exact oW rfl rfl rfl rfl (not_t hb164) fun h => yl_load1 ty3 rfl (h.dt 15 67 rfl rfl rfl) (((Box.ex hB156 h.ex).cell 2).trans rfl) kI
            ·intro L579 w580 hi581
             exact OpR.want rfl rfl (hi581.dt 14 66 rfl rfl rfl) (not_t hb164) (yC en27 rfl (oc (hi581.dt 16 68 rfl rfl rfl) oz) (Cal.mono (c_i_isStage ((p_0.Idxs.getD k91 d_Idx).Stage)) fun _ _ h => h))
            ·exact oW rfl rfl rfl rfl (not_t hb164) fun h => yl_not rfl (h.dt 17 69 rfl rfl rfl) kI
            ·exact oI rfl fun h => yl_pick_f rfl (h.dt 14 66 rfl rfl rfl) (not_t hb164) (h.dt 18 70 rfl rfl rfl) kI
            ·exact oI rfl fun h => yM rfl (h.dt 19 71 rfl rfl rfl) kI
            ·exact oW rfl rfl rfl rfl (not_t hb170) fun h => yM rfl (h.old 5 _ rfl rfl) kI
            ·exact oW rfl rfl rfl rfl (not_t hb170) fun h => yl_gtr rfl (h.dt 21 73 rfl rfl rfl) rfl kI
            ·exact oW rfl rfl rfl rfl (not_t hb170) fun h => yM rfl (h.dt 22 74 rfl rfl rfl) kI
            ·exact oS rfl rfl rfl rfl rfl hb176
            ·exact oS rfl rfl rfl rfl rfl hb176
            ·exact oS rfl rfl rfl rfl rfl hb176
            ·exact oS rfl rfl rfl rfl rfl hb176
            ·exact oS rfl rfl rfl rfl rfl hb176
            ·exact oS rfl rfl rfl rfl rfl hb176
            ·exact oS rfl rfl rfl rfl rfl hb176
            ·exact oS rfl rfl rfl rfl rfl hb176
            ·exact oS rfl rfl rfl rfl rfl hb176
            ·exact oS rfl rfl rfl rfl rfl hb176
            ·exact oW rfl rfl rfl rfl (not_t hb170) fun h => yl_pick_f rfl (h.dt 23 75 rfl rfl rfl) hb176 rfl kI
            ·exact oI rfl fun h => yl_pick_f rfl (h.dt 20 72 rfl rfl rfl) (not_t hb170) (h.dt 34 86 rfl rfl rfl) kI
            ·intro fl689 fh690 L686 w687 hp688
             have hE691 := hp688.ex
             have hE691z := Ex.size hE691
             refine dn (CW.sub (sC 1 (hp688.old 1 _ rfl rfl) (sC 45 (hp688.old 45 _ rfl rfl) (sC 46 (hp688.old 46 _ rfl rfl) (sC 47 (hp688.old 47 _ rfl rfl) (sC 57 (hp688.nt 5 57 rfl rfl rfl) (sC 58 (hp688.nt 6 58 rfl rfl rfl) (sC 59 (hp688.nt 7 59 rfl rfl rfl) (sC 60 (hp688.nt 8 60 rfl rfl rfl) (sC 61 (hp688.nt 9 61 rfl rfl rfl) (sC 62 (hp688.nt 10 62 rfl rfl rfl) (sC 63 (hp688.nt 11 63 rfl rfl rfl) (sC 64 (hp688.nt 12 64 rfl rfl rfl) (sC 67 (hp688.nt 15 67 rfl rfl rfl) (sC 68 (hp688.nt 16 68 rfl rfl rfl) (sC 69 (hp688.nt 17 69 rfl rfl rfl) (sC 70 (hp688.nt 18 70 rfl rfl rfl) (sC 73 (hp688.nt 21 73 rfl rfl rfl) (sC 74 (hp688.nt 22 74 rfl rfl rfl) (sC 75 (hp688.nt 23 75 rfl rfl rfl) (sC 76 (hp688.nt 24 76 rfl rfl rfl) (sC 77 (hp688.nt 25 77 rfl rfl rfl) (sC 78 (hp688.nt 26 78 rfl rfl rfl) (sC 79 (hp688.nt 27 79 rfl rfl rfl) (sC 80 (hp688.nt 28 80 rfl rfl rfl) (sC 81 (hp688.nt 29 81 rfl rfl rfl) (sC 82 (hp688.nt 30 82 rfl rfl rfl) (sC 83 (hp688.nt 31 83 rfl rfl rfl) (sC 84 (hp688.nt 32 84 rfl rfl rfl) (sC 85 (hp688.nt 33 85 rfl rfl rfl) (sC 86 (hp688.nt 34 86 rfl rfl rfl) (sC 87 (hp688.nt 35 87 rfl rfl rfl) (Sub.nil _)))))))))))))))))))))))))))))))) ?_)
             refine CW.cond_f rfl rfl (CW.skip (bn (tn (CW.region (sd rfl (yl_inc rfl rfl rfl oM (sM rfl (dn ?_))))))))
             have hB723 : B_i_GoodTable_1 p_0 k91 () = .cont () := by simp only [B_i_GoodTable_1, hb16, hb21, hb23, hb159, hb164, hb170, hb176, hL90, cL]
             exact ⟨p_0.Idxs.length - (k91 + 1), oM, k91 + 1, rfl, hlt147, oM, rfl, rfl, rfl, rfl, (Box.ex q469 hE691), (RdS.ex gS (RdS.only gS (RdS.ex gS hf143 hE154) hO157 (by simp only [Iv]; omega)) hE691), (RdS.ex gI (RdS.only gI (RdS.ex gI hf144 hE154) hO157 (by simp only [Iv]; omega)) hE691), (Ex.trans (Below.only (Ex.trans hf145 hE154) hO157 oM) hE691), (loopM.cont hlt147 hB723).symm.trans hI136⟩
          ·refine drI 36 [.pointer (some ⟨b149, 0 + 0, none⟩), .string (bs ((p_0.Idxs.getD k91 d_Idx).Name)), .bool ((i_areLetters ((p_0.Idxs.getD k91 d_Idx).Name) 1)), .bool (!(i_areLetters ((p_0.Idxs.getD k91 d_Idx).Name) 1)), .bool (!(i_areLetters ((p_0.Idxs.getD k91 d_Idx).Name) 1)), .pointer (some ⟨b149, 0 + 1, none⟩), .int .i64 ((p_0.Idxs.getD k91 d_Idx).Col), .pointer (some ⟨b7, 0 + 1, none⟩), .slice A1 p_0.Cols.length c1, .int .i64 ((p_0.Cols.length : Int)), .int .i64 (IntKind.wrap .i64 ((p_0.Cols.length : Int) - 1)), .bool ((i_within ((p_0.Idxs.getD k91 d_Idx).Col) 1 (IntKind.wrap .i64 ((p_0.Cols.length : Int) - 1)))), .bool (!(i_within ((p_0.Idxs.getD k91 d_Idx).Col) 1 (IntKind.wrap .i64 ((p_0.Cols.length : Int) - 1)))), .bool (!(i_within ((p_0.Idxs.getD k91 d_Idx).Col) 1 (IntKind.wrap .i64 ((p_0.Cols.length : Int) - 1)))), .bool (!(i_within ((p_0.Idxs.getD k91 d_Idx).Col) 1 (IntKind.wrap .i64 ((p_0.Cols.length : Int) - 1)))), .pointer (some ⟨b149, 0 + 2, none⟩), .int .i64 ((p_0.Idxs.getD k91 d_Idx).Stage), .bool ((i_isStage ((p_0.Idxs.getD k91 d_Idx).Stage))), .bool (!(i_isStage ((p_0.Idxs.getD k91 d_Idx).Stage))), .bool (!(i_isStage ((p_0.Idxs.getD k91 d_Idx).Stage))), .bool (!(i_isStage ((p_0.Idxs.getD k91 d_Idx).Stage))), undef, undef, undef, undef, undef, undef, undef, undef, undef, undef, undef, undef, undef, undef, .bool (true)] Tryz.follows rfl ⟨?_, ?_, ?_, ?_, ?_, ?_, ?_, ?_, ?_, ?_, ?_, ?_, ?_, ?_, ?_, ?_, ?_, ?_, ?_, ?_, ?_, ?_, ?_, ?_, ?_, ?_, ?_, ?_, ?_, ?_, ?_, ?_, ?_, ?_, ?_, ?_, trivial⟩ ?_
           ·exact oI rfl fun h => yl_fieldAddr fd35_0 rfl (h.old 6 _ rfl rfl) kI
           ·exact oI rfl fun h => yl_load1 ty9 rfl (h.dt 0 52 rfl rfl rfl) (((Box.ex hB156 h.ex).cell 0).trans rfl) kI
           ·intro L750 w751 hi752
            exact OpR.op' rfl (yC en36 rfl (oc (hi752.dt 1 53 rfl rfl rfl) (oc rfl oz)) (Cal.mono (c_i_areLetters ((p_0.Idxs.getD k91 d_Idx).Name) 1 (okL.getD o3.2.2 ok_d_Idx _)) fun _ _ h => h))
           ·exact oI rfl fun h => yl_not rfl (h.dt 2 54 rfl rfl rfl) kI
           ·exact oI rfl fun h => yM rfl (h.dt 3 55 rfl rfl rfl) kI
           ·exact oW rfl rfl rfl rfl (not_t hb159) fun h => yl_fieldAddr fd35_1 rfl (h.old 6 _ rfl rfl) kI
           ·exact oW rfl rfl rfl rfl (not_t hb159) fun h => yl_load1 ty3 rfl (h.dt 5 57 rfl rfl rfl) (((Box.ex hB156 h.ex).cell 1).trans rfl) kI
           ·exact oW rfl rfl rfl rfl (not_t hb159) fun h => yl_fieldAddr fd26_1 rfl (h.old 1 _ rfl rfl) kI
           ·intro L787 w788 hi789
            have hE790 := hi789.ex
            have hE790z := Ex.size hE790
            exact OpR.want rfl rfl (hi789.dt 4 56 rfl rfl rfl) (not_t hb159) (Yl.sameI (yl_load1 ty23 rfl (hi789.dt 7 59 rfl rfl rfl) (((Box.ex (Box.only (Box.ex hf142 hE154) hO157 oM) hE790).cell 1).trans rfl) kI))
           ·exact oW rfl rfl rfl rfl (not_t hb159) fun h => yL un23 rfl (h.dt 8 60 rfl rfl rfl) kI
           ·exact oW rfl rfl rfl rfl (not_t hb159) fun h => yl_sub rfl (h.dt 9 61 rfl rfl rfl) rfl kI
           ·intro L806 w807 hi808
            exact OpR.want rfl rfl (hi808.dt 4 56 rfl rfl rfl) (not_t hb159) (yC en37 rfl (oc (hi808.dt 6 58 rfl rfl rfl) (oc rfl (oc (hi808.dt 10 62 rfl rfl rfl) oz))) (Cal.mono (c_i_within ((p_0.Idxs.getD k91 d_Idx).Col) 1 (IntKind.wrap .i64 ((p_0.Cols.length : Int) - 1))) fun _ _ h => h))
           ·exact oW rfl rfl rfl rfl (not_t hb159) fun h => yl_not rfl (h.dt 11 63 rfl rfl rfl) kI
           ·exact oI rfl fun h => yl_pick_f rfl (h.dt 4 56 rfl rfl rfl) (not_t hb159) (h.dt 12 64 rfl rfl rfl) kI
           ·exact oI rfl fun h => yM rfl (h.dt 13 65 rfl rfl rfl) kI
           ·exact oW rfl rfl rfl rfl (not_t hb164) fun h => yl_fieldAddr fd35_2 rfl (h.old 6 _ rfl rfl) kI
           ·exact oW rfl rfl rfl rfl (not_t hb164) fun h => yl_load1 ty3 rfl (h.dt 15 67 rfl rfl rfl) (((Box.ex hB156 h.ex).cell 2).trans rfl) kI
           ·intro L846 w847 hi848
            exact OpR.want rfl rfl (hi848.dt 14 66 rfl rfl rfl) (not_t hb164) (yC en27 rfl (oc (hi848.dt 16 68 rfl rfl rfl) oz) (Cal.mono (c_i_isStage ((p_0.Idxs.getD k91 d_Idx).Stage)) fun _ _ h => h))
           ·exact oW rfl rfl rfl rfl (not_t hb164) fun h => yl_not rfl (h.dt 17 69 rfl rfl rfl) kI
           ·exact oI rfl fun h => yl_pick_f rfl (h.dt 14 66 rfl rfl rfl) (not_t hb164) (h.dt 18 70 rfl rfl rfl) kI
           ·exact oI rfl fun h => yM rfl (h.dt 19 71 rfl rfl rfl) kI
           ·exact oS rfl rfl rfl rfl rfl (not_f hb170)
           ·exact oS rfl rfl rfl rfl rfl (not_f hb170)
           ·exact oS rfl rfl rfl rfl rfl (not_f hb170)
           ·exact oU rfl rfl rfl rfl rfl
           ·exact oU rfl rfl rfl rfl rfl
           ·exact oU rfl rfl rfl rfl rfl
           ·exact oU rfl rfl rfl rfl rfl
           ·exact oU rfl rfl rfl rfl rfl
           ·exact oU rfl rfl rfl rfl rfl
           ·exact oU rfl rfl rfl rfl rfl
           ·exact oU rfl rfl rfl rfl rfl
           ·exact oU rfl rfl rfl rfl rfl
           ·exact oU rfl rfl rfl rfl rfl
           ·exact oS rfl rfl rfl rfl rfl (not_f hb170)
           ·exact oI rfl fun h => yl_pick_t rfl (h.dt 20 72 rfl rfl rfl) (not_f hb170) rfl kI
           ·intro fl951 fh952 L948 w949 hp950
            have hE953 := hp950.ex
            have hE953z := Ex.size hE953
            refine dn (CW.sub (sC 1 (hp950.old 1 _ rfl rfl) (sC 45 (hp950.old 45 _ rfl rfl) (sC 46 (hp950.old 46 _ rfl rfl) (sC 47 (hp950.old 47 _ rfl rfl) (sC 57 (hp950.nt 5 57 rfl rfl rfl) (sC 58 (hp950.nt 6 58 rfl rfl rfl) (sC 59 (hp950.nt 7 59 rfl rfl rfl) (sC 60 (hp950.nt 8 60 rfl rfl rfl) (sC 61 (hp950.nt 9 61 rfl rfl rfl) (sC 62 (hp950.nt 10 62 rfl rfl rfl) (sC 63 (hp950.nt 11 63 rfl rfl rfl) (sC 64 (hp950.nt 12 64 rfl rfl rfl) (sC 67 (hp950.nt 15 67 rfl rfl rfl) (sC 68 (hp950.nt 16 68 rfl rfl rfl) (sC 69 (hp950.nt 17 69 rfl rfl rfl) (sC 70 (hp950.nt 18 70 rfl rfl rfl) (sC 73 (hp950.nt 21 73 rfl rfl rfl) (sC 74 (hp950.nt 22 74 rfl rfl rfl) (sC 75 (hp950.nt 23 75 rfl rfl rfl) (sC 76 (hp950.nt 24 76 rfl rfl rfl) (sC 77 (hp950.nt 25 77 rfl rfl rfl) (sC 78 (hp950.nt 26 78 rfl rfl rfl) (sC 79 (hp950.nt 27 79 rfl rfl rfl) (sC 80 (hp950.nt 28 80 rfl rfl rfl) (sC 81 (hp950.nt 29 81 rfl rfl rfl) (sC 82 (hp950.nt 30 82 rfl rfl rfl) (sC 83 (hp950.nt 31 83 rfl rfl rfl) (sC 84 (hp950.nt 32 84 rfl rfl rfl) (sC 85 (hp950.nt 33 85 rfl rfl rfl) (sC 86 (hp950.nt 34 86 rfl rfl rfl) (sC 87 (hp950.nt 35 87 rfl rfl rfl) (Sub.nil _)))))))))))))))))))))))))))))))) ?_)
            refine CW.cond_t rfl rfl (cR (sA rfl (dn (CW.ret (br (tr ?_))))))
            refine tr ?_
            have hB986 : B_i_GoodTable_1 p_0 k91 () = .ret false := by simp only [B_i_GoodTable_1, hb16, hb21, hb23, hb159, hb164, hb170, hL90, cL]
            have hL985 : loopM (B_i_GoodTable_1 p_0) (p_0.Idxs.length - 0) 0 () = .ret false := hI136.symm.trans (loopM.ret hlt147 hB986)
            refine br (tr (rr rfl (.cons rfl .nil) ?_))
            have hM987 : (i_GoodTable p_0) = (false) := by simp only [i_GoodTable, hb16, hb21, hb23, hb159, hb164, hb170, hL90, hL985, cL]
            rw [hM987]
            exact ⟨rfl, (Ex.trans (Below.only (Ex.trans hf145 hE154) hO157 oM) hE953)⟩
         ·refine drI 36 [.pointer (some ⟨b149, 0 + 0, none⟩), .string (bs ((p_0.Idxs.getD k91 d_Idx).Name)), .bool ((i_areLetters ((p_0.Idxs.getD k91 d_Idx).Name) 1)), .bool (!(i_areLetters ((p_0.Idxs.getD k91 d_Idx).Name) 1)), .bool (!(i_areLetters ((p_0.Idxs.getD k91 d_Idx).Name) 1)), .pointer (some ⟨b149, 0 + 1, none⟩), .int .i64 ((p_0.Idxs.getD k91 d_Idx).Col), .pointer (some ⟨b7, 0 + 1, none⟩), .slice A1 p_0.Cols.length c1, .int .i64 ((p_0.Cols.length : Int)), .int .i64 (IntKind.wrap .i64 ((p_0.Cols.length : Int) - 1)), .bool ((i_within ((p_0.Idxs.getD k91 d_Idx).Col) 1 (IntKind.wrap .i64 ((p_0.Cols.length : Int) - 1)))), .bool (!(i_within ((p_0.Idxs.getD k91 d_Idx).Col) 1 (IntKind.wrap .i64 ((p_0.Cols.length : Int) - 1)))), .bool (!(i_within ((p_0.Idxs.getD k91 d_Idx).Col) 1 (IntKind.wrap .i64 ((p_0.Cols.length : Int) - 1)))), .bool (!(i_within ((p_0.Idxs.getD k91 d_Idx).Col) 1 (IntKind.wrap .i64 ((p_0.Cols.length : Int) - 1)))), undef, undef, undef, undef, .bool (true), .bool (true), undef, undef, undef, undef, undef, undef, undef, undef, undef, undef, undef, undef, undef, undef, .bool (true)] Tryz.follows rfl ⟨?_, ?_, ?_, ?_, ?_, ?_, ?_, ?_, ?_, ?_, ?_, ?_, ?_, ?_, ?_, ?_, ?_, ?_, ?_, ?_, ?_, ?_, ?_, ?_, ?_, ?_, ?_, ?_, ?_, ?_, ?_, ?_, ?_, ?_, ?_, ?_, trivial⟩ ?_
          ·exact oI rfl fun h => yl_fieldAddr fd35_0 rfl (h.old 6 _ rfl rfl) kI
          ·exact oI rfl fun h => yl_load1 ty9 rfl (h.dt 0 52 rfl rfl rfl) (((Box.ex hB156 h.ex).cell 0).trans rfl) kI
          ·intro L1006 w1007 hi1008
           exact OpR.op' rfl (yC en36 rfl (oc (hi1008.dt 1 53 rfl rfl rfl) (oc rfl oz)) (Cal.mono (c_i_areLetters ((p_0.Idxs.getD k91 d_Idx).Name) 1 (okL.getD o3.2.2 ok_d_Idx _)) fun _ _ h => h))
          ·exact oI rfl fun h => yl_not rfl (h.dt 2 54 rfl rfl rfl) kI
          ·exact oI rfl fun h => yM rfl (h.dt 3 55 rfl rfl rfl) kI
          ·exact oW rfl rfl rfl rfl (not_t hb159) fun h => yl_fieldAddr fd35_1 rfl (h.old 6 _ rfl rfl) kI
          ·exact oW rfl rfl rfl rfl (not_t hb159) fun h => yl_load1 ty3 rfl (h.dt 5 57 rfl rfl rfl) (((Box.ex hB156 h.ex).cell 1).trans rfl) kI
          ·exact oW rfl rfl rfl rfl (not_t hb159) fun h => yl_fieldAddr fd26_1 rfl (h.old 1 _ rfl rfl) kI
          ·intro L1043 w1044 hi1045
           have hE1046 := hi1045.ex
           have hE1046z := Ex.size hE1046
           exact OpR.want rfl rfl (hi1045.dt 4 56 rfl rfl rfl) (not_t hb159) (Yl.sameI (yl_load1 ty23 rfl (hi1045.dt 7 59 rfl rfl rfl) (((Box.ex (Box.only (Box.ex hf142 hE154) hO157 oM) hE1046).cell 1).trans rfl) kI))
          ·exact oW rfl rfl rfl rfl (not_t hb159) fun h => yL un23 rfl (h.dt 8 60 rfl rfl rfl) kI
          ·exact oW rfl rfl rfl rfl (not_t hb159) fun h => yl_sub rfl (h.dt 9 61 rfl rfl rfl) rfl kI
          ·intro L1062 w1063 hi1064
           exact OpR.want rfl rfl (hi1064.dt 4 56 rfl rfl rfl) (not_t hb159) (yC en37 rfl (oc (hi1064.dt 6 58 rfl rfl rfl) (oc rfl (oc (hi1064.dt 10 62 rfl rfl rfl) oz))) (Cal.mono (c_i_within ((p_0.Idxs.getD k91 d_Idx).Col) 1 (IntKind.wrap .i64 ((p_0.Cols.length : Int) - 1))) fun _ _ h => h))
          ·exact oW rfl rfl rfl rfl (not_t hb159) fun h => yl_not rfl (h.dt 11 63 rfl rfl rfl) kI
          ·exact oI rfl fun h => yl_pick_f rfl (h.dt 4 56 rfl rfl rfl) (not_t hb159) (h.dt 12 64 rfl rfl rfl) kI
          ·exact oI rfl fun h => yM rfl (h.dt 13 65 rfl rfl rfl) kI
          ·exact oS rfl rfl rfl rfl rfl (not_f hb164)
          ·exact oS rfl rfl rfl rfl rfl (not_f hb164)
          ·exact oS rfl rfl rfl rfl rfl (not_f hb164)
          ·exact oS rfl rfl rfl rfl rfl (not_f hb164)
          ·exact oI rfl fun h => yl_pick_t rfl (h.dt 14 66 rfl rfl rfl) (not_f hb164) rfl kI
          ·exact oI rfl fun h => yM rfl (h.dt 19 71 rfl rfl rfl) kI
          ·exact oS rfl rfl rfl rfl rfl rfl
          ·exact oS rfl rfl rfl rfl rfl rfl
          ·exact oS rfl rfl rfl rfl rfl rfl
          ·exact oU rfl rfl rfl rfl rfl
          ·exact oU rfl rfl rfl rfl rfl
          ·exact oU rfl rfl rfl rfl rfl
          ·exact oU rfl rfl rfl rfl rfl
          ·exact oU rfl rfl rfl rfl rfl
          ·exact oU rfl rfl rfl rfl rfl
          ·exact oU rfl rfl rfl rfl rfl
          ·exact oU rfl rfl rfl rfl rfl
          ·exact oU rfl rfl rfl rfl rfl
          ·exact oU rfl rfl rfl rfl rfl
          ·exact oS rfl rfl rfl rfl rfl rfl
          ·exact oI rfl fun h => yl_pick_t rfl (h.dt 20 72 rfl rfl rfl) rfl rfl kI
          ·intro fl1199 fh1200 L1196 w1197 hp1198
           have hE1201 := hp1198.ex
           have hE1201z := Ex.size hE1201
           refine dn (CW.sub (sC 1 (hp1198.old 1 _ rfl rfl) (sC 45 (hp1198.old 45 _ rfl rfl) (sC 46 (hp1198.old 46 _ rfl rfl) (sC 47 (hp1198.old 47 _ rfl rfl) (sC 57 (hp1198.nt 5 57 rfl rfl rfl) (sC 58 (hp1198.nt 6 58 rfl rfl rfl) (sC 59 (hp1198.nt 7 59 rfl rfl rfl) (sC 60 (hp1198.nt 8 60 rfl rfl rfl) (sC 61 (hp1198.nt 9 61 rfl rfl rfl) (sC 62 (hp1198.nt 10 62 rfl rfl rfl) (sC 63 (hp1198.nt 11 63 rfl rfl rfl) (sC 64 (hp1198.nt 12 64 rfl rfl rfl) (sC 67 (hp1198.nt 15 67 rfl rfl rfl) (sC 68 (hp1198.nt 16 68 rfl rfl rfl) (sC 69 (hp1198.nt 17 69 rfl rfl rfl) (sC 70 (hp1198.nt 18 70 rfl rfl rfl) (sC 73 (hp1198.nt 21 73 rfl rfl rfl) (sC 74 (hp1198.nt 22 74 rfl rfl rfl) (sC 75 (hp1198.nt 23 75 rfl rfl rfl) (sC 76 (hp1198.nt 24 76 rfl rfl rfl) (sC 77 (hp1198.nt 25 77 rfl rfl rfl) (sC 78 (hp1198.nt 26 78 rfl rfl rfl) (sC 79 (hp1198.nt 27 79 rfl rfl rfl) (sC 80 (hp1198.nt 28 80 rfl rfl rfl) (sC 81 (hp1198.nt 29 81 rfl rfl rfl) (sC 82 (hp1198.nt 30 82 rfl rfl rfl) (sC 83 (hp1198.nt 31 83 rfl rfl rfl) (sC 84 (hp1198.nt 32 84 rfl rfl rfl) (sC 85 (hp1198.nt 33 85 rfl rfl rfl) (sC 86 (hp1198.nt 34 86 rfl rfl rfl) (sC 87 (hp1198.nt 35 87 rfl rfl rfl) (Sub.nil _)))))))))))))))))))))))))))))))) ?_)
           refine CW.cond_t rfl rfl (cR (sA rfl (dn (CW.ret (br (tr ?_))))))
           refine tr ?_
           have hB1234 : B_i_GoodTable_1 p_0 k91 () = .ret false := by simp only [B_i_GoodTable_1, hb16, hb21, hb23, hb159, hb164, hL90, cL]
           have hL1233 : loopM (B_i_GoodTable_1 p_0) (p_0.Idxs.length - 0) 0 () = .ret false := hI136.symm.trans (loopM.ret hlt147 hB1234)
           refine br (tr (rr rfl (.cons rfl .nil) ?_))
           have hM1235 : (i_GoodTable p_0) = (false) := by simp only [i_GoodTable, hb16, hb21, hb23, hb159, hb164, hL90, hL1233, cL]
           rw [hM1235]
           exact ⟨rfl, (Ex.trans (Below.only (Ex.trans hf145 hE154) hO157 oM) hE1201)⟩
        ·refine drI 36 [.pointer (some ⟨b149, 0 + 0, none⟩), .string (bs ((p_0.Idxs.getD k91 d_Idx).Name)), .bool ((i_areLetters ((p_0.Idxs.getD k91 d_Idx).Name) 1)), .bool (!(i_areLetters ((p_0.Idxs.getD k91 d_Idx).Name) 1)), .bool (!(i_areLetters ((p_0.Idxs.getD k91 d_Idx).Name) 1)), undef, undef, undef, undef, undef, undef, undef, undef, .bool (true), .bool (true), undef, undef, undef, undef, .bool (true), .bool (true), undef, undef, undef, undef, undef, undef, undef, undef, undef, undef, undef, undef, undef, undef, .bool (true)] Tryz.follows rfl ⟨?_, ?_, ?_, ?_, ?_, ?_, ?_, ?_, ?_, ?_, ?_, ?_, ?_, ?_, ?_, ?_, ?_, ?_, ?_, ?_, ?_, ?_, ?_, ?_, ?_, ?_, ?_, ?_, ?_, ?_, ?_, ?_, ?_, ?_, ?_, ?_, trivial⟩ ?_
         ·exact oI rfl fun h => yl_fieldAddr fd35_0 rfl (h.old 6 _ rfl rfl) kI
         ·exact oI rfl fun h => yl_load1 ty9 rfl (h.dt 0 52 rfl rfl rfl) (((Box.ex hB156 h.ex).cell 0).trans rfl) kI
         ·intro L1251 w1252 hi1253
          exact OpR.op' rfl (yC en36 rfl (oc (hi1253.dt 1 53 rfl rfl rfl) (oc rfl oz)) (Cal.mono (c_i_areLetters ((p_0.Idxs.getD k91 d_Idx).Name) 1 (okL.getD o3.2.2 ok_d_Idx _)) fun _ _ h => h))
         ·exact oI rfl fun h => yl_not rfl (h.dt 2 54 rfl rfl rfl) kI
         ·exact oI rfl fun h => yM rfl (h.dt 3 55 rfl rfl rfl) kI
         ·exact oS rfl rfl rfl rfl rfl (not_f hb159)
         ·exact oS rfl rfl rfl rfl rfl (not_f hb159)
         ·exact oS rfl rfl rfl rfl rfl (not_f hb159)
         ·exact oS rfl rfl rfl rfl rfl (not_f hb159)
         ·exact oS rfl rfl rfl rfl rfl (not_f hb159)
         ·exact oS rfl rfl rfl rfl rfl (not_f hb159)
         ·exact oS rfl rfl rfl rfl rfl (not_f hb159)
         ·exact oS rfl rfl rfl rfl rfl (not_f hb159)
         ·exact oI rfl fun h => yl_pick_t rfl (h.dt 4 56 rfl rfl rfl) (not_f hb159) rfl kI
         ·exact oI rfl fun h => yM rfl (h.dt 13 65 rfl rfl rfl) kI
         ·exact oS rfl rfl rfl rfl rfl rfl
         ·exact oS rfl rfl rfl rfl rfl rfl
         ·exact oS rfl rfl rfl rfl rfl rfl
         ·exact oS rfl rfl rfl rfl rfl rfl
         ·exact oI rfl fun h => yl_pick_t rfl (h.dt 14 66 rfl rfl rfl) rfl rfl kI
         ·exact oI rfl fun h => yM rfl (h.dt 19 71 rfl rfl rfl) kI
         ·exact oS rfl rfl rfl rfl rfl rfl
         ·exact oS rfl rfl rfl rfl rfl rfl
         ·exact oS rfl rfl rfl rfl rfl rfl
         ·exact oU rfl rfl rfl rfl rfl
         ·exact oU rfl rfl rfl rfl rfl
         ·exact oU rfl rfl rfl rfl rfl
         ·exact oU rfl rfl rfl rfl rfl
         ·exact oU rfl rfl rfl rfl rfl
         ·exact oU rfl rfl rfl rfl rfl
         ·exact oU rfl rfl rfl rfl rfl
         ·exact oU rfl rfl rfl rfl rfl
         ·exact oU rfl rfl rfl rfl rfl
         ·exact oU rfl rfl rfl rfl rfl
         ·exact oS rfl rfl rfl rfl rfl rfl
         ·exact oI rfl fun h => yl_pick_t rfl (h.dt 20 72 rfl rfl rfl) rfl rfl kI
         ·intro fl1430 fh1431 L1427 w1428 hp1429
          have hE1432 := hp1429.ex
          have hE1432z := Ex.size hE1432
          refine dn (CW.sub (sC 1 (hp1429.old 1 _ rfl rfl) (sC 45 (hp1429.old 45 _ rfl rfl) (sC 46 (hp1429.old 46 _ rfl rfl) (sC 47 (hp1429.old 47 _ rfl rfl) (sC 57 (hp1429.nt 5 57 rfl rfl rfl) (sC 58 (hp1429.nt 6 58 rfl rfl rfl) (sC 59 (hp1429.nt 7 59 rfl rfl rfl) (sC 60 (hp1429.nt 8 60 rfl rfl rfl) (sC 61 (hp1429.nt 9 61 rfl rfl rfl) (sC 62 (hp1429.nt 10 62 rfl rfl rfl) (sC 63 (hp1429.nt 11 63 rfl rfl rfl) (sC 64 (hp1429.nt 12 64 rfl rfl rfl) (sC 67 (hp1429.nt 15 67 rfl rfl rfl) (sC 68 (hp1429.nt 16 68 rfl rfl rfl) (sC 69 (hp1429.nt 17 69 rfl rfl rfl) (sC 70 (hp1429.nt 18 70 rfl rfl rfl) (sC 73 (hp1429.nt 21 73 rfl rfl rfl) (sC 74 (hp1429.nt 22 74 rfl rfl rfl) (sC 75 (hp1429.nt 23 75 rfl rfl rfl) (sC 76 (hp1429.nt 24 76 rfl rfl rfl) (sC 77 (hp1429.nt 25 77 rfl rfl rfl) (sC 78 (hp1429.nt 26 78 rfl rfl rfl) (sC 79 (hp1429.nt 27 79 rfl rfl rfl) (sC 80 (hp1429.nt 28 80 rfl rfl rfl) (sC 81 (hp1429.nt 29 81 rfl rfl rfl) (sC 82 (hp1429.nt 30 82 rfl rfl rfl) (sC 83 (hp1429.nt 31 83 rfl rfl rfl) (sC 84 (hp1429.nt 32 84 rfl rfl rfl) (sC 85 (hp1429.nt 33 85 rfl rfl rfl) (sC 86 (hp1429.nt 34 86 rfl rfl rfl) (sC 87 (hp1429.nt 35 87 rfl rfl rfl) (Sub.nil _)))))))))))))))))))))))))))))))) ?_)
          refine CW.cond_t rfl rfl (cR (sA rfl (dn (CW.ret (br (tr ?_))))))
          refine tr ?_
          have hB1465 : B_i_GoodTable_1 p_0 k91 () = .ret false := by simp only [B_i_GoodTable_1, hb16, hb21, hb23, hb159, hL90, cL]
          have hL1464 : loopM (B_i_GoodTable_1 p_0) (p_0.Idxs.length - 0) 0 () = .ret false := hI136.symm.trans (loopM.ret hlt147 hB1465)
          refine br (tr (rr rfl (.cons rfl .nil) ?_))
          have hM1466 : (i_GoodTable p_0) = (false) := by simp only [i_GoodTable, hb16, hb21, hb23, hb159, hL90, hL1464, cL]
          rw [hM1466]
          exact ⟨rfl, (Ex.trans (Below.only (Ex.trans hf145 hE154) hO157 oM) hE1432)⟩
       ·refine cR (sd rfl (yl_lss rfl rfl rfl (dn (CW.seq (CW.cond_f rfl (lt_f hlt147) (CW.exit (tx ?_)))))))
        refine tx ?_
        have hL1470 : loopM (B_i_GoodTable_1 p_0) (p_0.Idxs.length - 0) 0 () = .done () := hI136.symm.trans (loopM.stop hlt147)
        refine bx (tn (cR (sA rfl (dn (CW.ret (rr rfl (.cons rfl .nil) ?_))))))
        have hM1471 : (i_GoodTable p_0) = (true) := by simp only [i_GoodTable, hb16, hb21, hb23, hL90, hL1470, cL]
        rw [hM1471]
        exact ⟨rfl, hf145⟩
  ·refine sz rfl rfl (not_f hb21) (sz rfl rfl (not_f hb21) (sz rfl rfl (not_f hb21) (sz rfl rfl (not_f hb21) (sd rfl (yl_pick_t rfl rfl (not_f hb21) rfl (dn (CW.cond_t rfl rfl (CW.seq ?_))))))))
   refine CW.region (sA rfl (dn (CW.ret (tr (rr rfl (.cons rfl .nil) ?_)))))
   have hM1472 : (i_GoodTable p_0) = (false) := by simp only [i_GoodTable, hb16, hb21, cL]
   rw [hM1472]
   exact ⟨rfl, (Ex.trans (Ex.trans (Ex.trans (Ex.refl w) hE12) hE15) hE20)⟩
 ·refine sz rfl rfl (not_f hb16) (sz rfl rfl (not_f hb16) (sz rfl rfl (not_f hb16) (sz rfl rfl (not_f hb16) (sz rfl rfl (not_f hb16) (sd rfl (yl_pick_t rfl rfl (not_f hb16) rfl (sM rfl (sz rfl rfl rfl (sz rfl rfl rfl ?_)))))))))
  refine sz rfl rfl rfl (sz rfl rfl rfl (sd rfl (yl_pick_t rfl rfl rfl rfl (dn (CW.cond_t rfl rfl (cR (sA rfl ?_)))))))
  refine dn (CW.ret (tr (rr rfl (.cons rfl .nil) ?_)))
  have hM1476 : (i_GoodTable p_0) = (false) := by simp only [i_GoodTable, hb16, cL]
  rw [hM1476]
  exact ⟨rfl, (Ex.trans (Ex.trans (Ex.refl w) hE12) hE15)⟩
theorem c_g_slices_IndexFunc_Idx {A1 : Option Addr} {c1 : Nat} {g3 : Nat} {cp4 : List Value} {w : World} (p_s : List DIdx) (p_f : DIdx → Bool) (h1 : RdS w (Iv 0 w.heap.size) (RF e_Idx) 3 A1 p_s.length c1 p_s) (hen5 : Go.X.Enters Tryz.prog g3) (hfn6 : ∀ (w1 : World) (y0 : DIdx), Ex w w1 → y0 ∈ p_s → ok_Idx y0 → Cal Tryz.prog g3 (([.agg #[.string (bs (y0.Name)), .int .i64 (y0.Col), .int .i64 (y0.Stage)]] : List Value) ++ cp4).toArray w1 fun v w2 => v = .bool (p_f y0) ∧ Ex w1 w2) (o2 : (okL ok_Idx) p_s) : Cal Tryz.prog 74 #[.slice A1 p_s.length c1, .func (.func g3) #[] cp4.toArray] w fun v w' => v = .int .i64 ((g_slices_IndexFunc_Idx p_s p_f)) ∧ Ex w w' := by
 have hol7 := o2.1
 refine Cal.of func74 rfl ntmps74 rfl (cR (sA rfl (dn (CW.seq (cR ?_)))))
 refine sM rfl (sd rfl (yL un24 rfl rfl (sM rfl (dn (CW.block (CW.loop (fun m9 L10 w11 => ∃ (k8 : Nat), m9 = p_s.length - k8 ∧ k8 ≤ p_s.length ∧ w.heap.size ≤ w11.heap.size ∧ lkp L10 0 = some (.slice A1 p_s.length c1) ∧ lkp L10 1 = some (.func (.func g3) #[] cp4.toArray) ∧ lkp L10 7 = some (.int .i64 ((p_s.length : Int))) ∧ lkp L10 8 = some (.int .i64 ((k8 : Int))) ∧ RdS w11 (Iv 0 w.heap.size) (RF e_Idx) 3 A1 p_s.length c1 p_s ∧ Ex w w11 ∧ loopM (B_g_slices_IndexFunc_Idx_0 p_s p_f) (p_s.length - k8) k8 () = loopM (B_g_slices_IndexFunc_Idx_0 p_s p_f) (p_s.length - 0) 0 ()) (p_s.length - 0) ?_ ?_))))))
 ·exact ⟨0, rfl, oM, Nat.le_refl _, rfl, rfl, rfl, rfl, h1, (Ex.refl w), rfl⟩
 ·rintro m12 L13 w14 ⟨k8, rfl, hk15, hsz17, hl18, hl19, hl20, hl21, hf22, hf23, hI16⟩
  refine CW.sub (Sub.cons hl18 (Sub.cons hl19 (Sub.cons hl20 (Sub.cons hl21 (Sub.nil _))))) ?_
  have hf23z := Ex.size hf23
  have hbg24 := RdS.big hf22
  rcases Nat.lt_or_ge k8 p_s.length with hlt25 | hlt25
  ·refine cR (sd rfl (yl_lss rfl rfl rfl (dn (CW.seq (CW.cond_t rfl (lt_t hlt25) (CW.skip (tn ?_)))))))
   refine CW.seq (CW.block (cR (sM rfl (sA rfl (dn (CW.seq ?_))))))
   refine CW.region (sM rfl (sM rfl (sM rfl ?_)))
   obtain ⟨eb26, eo26, _, eA26, _, ebl26, _, eR26, eC26⟩ := RdS.aD hf22 d_Idx (i := k8)
   obtain rfl := eR26
   have eC26 : Cells w14 eb26 (eo26 + k8 * 3) [.string (bs ((p_s.getD k8 d_Idx).Name)), .int .i64 ((p_s.getD k8 d_Idx).Col), .int .i64 ((p_s.getD k8 d_Idx).Stage)] := eC26
   refine sd rfl (yl_ixN un24 ty35 rfl rfl rfl eA26 (sd rfl (yl_loadN ty35 rfl rfl eC26 rfl (sd rfl (yl_callv hen5 rfl rfl (oc rfl oz) (Cal.mono (hfn6 w14 (p_s.getD k8 d_Idx) hf23 (getD_mem oM) (okL.getD o2 ok_d_Idx _)) ?_))))))
   rintro v28 w27 ⟨rfl, hE29⟩
   have hE29z := Ex.size hE29
   refine dn (bcase (p_f (p_s.getD k8 d_Idx)) (fun hb30 => ?_) (fun hb30 => ?_))
   ·refine CW.cond_t rfl hb30 (cR (sM rfl (sA rfl (dn (CW.ret (br ?_))))))
    refine tr (tr ?_)
    have hB32 : B_g_slices_IndexFunc_Idx_0 p_s p_f k8 () = .ret (k8 : Int) := by simp only [B_g_slices_IndexFunc_Idx_0, hb30, cL]
    have hL31 : loopM (B_g_slices_IndexFunc_Idx_0 p_s p_f) (p_s.length - 0) 0 () = .ret (k8 : Int) := hI16.symm.trans (loopM.ret hlt25 hB32)
    refine br (tr (rr rfl (.cons rfl .nil) ?_))
    have hM33 : (g_slices_IndexFunc_Idx p_s p_f) = ((k8 : Int)) := by simp only [g_slices_IndexFunc_Idx, hb30, hL31, cL]
    rw [hM33]
    exact ⟨rfl, (Ex.trans hf23 hE29)⟩
   ·refine CW.cond_f rfl hb30 (CW.skip (bn (tn (CW.region (sd rfl (yl_inc rfl rfl rfl oM (sM rfl (dn ?_))))))))
    have hB35 : B_g_slices_IndexFunc_Idx_0 p_s p_f k8 () = .cont () := by simp only [B_g_slices_IndexFunc_Idx_0, hb30, cL]
    exact ⟨p_s.length - (k8 + 1), oM, k8 + 1, rfl, hlt25, oM, rfl, rfl, rfl, rfl, (RdS.ex gI hf22 hE29), (Ex.trans hf23 hE29), (loopM.cont hlt25 hB35).symm.trans hI16⟩
  ·refine cR (sd rfl (yl_lss rfl rfl rfl (dn (CW.seq (CW.cond_f rfl (lt_f hlt25) (CW.exit (tx ?_)))))))
   refine tx ?_
   have hL38 : loopM (B_g_slices_IndexFunc_Idx_0 p_s p_f) (p_s.length - 0) 0 () = .done () := hI16.symm.trans (loopM.stop hlt25)
   refine bx (tn (cR (sA rfl (dn (CW.ret (rr rfl (.cons rfl .nil) ?_))))))
   have hM39 : (g_slices_IndexFunc_Idx p_s p_f) = (-1) := by simp only [g_slices_IndexFunc_Idx, hL38, cL]
   rw [hM39]
   exact ⟨rfl, hf23⟩
theorem c_i_Table_findIdx_c1 {b2 : Nat} {w : World} (p_x : DIdx) (p_cap0 : Str) (h3 : Box w b2 9 [.string (bs (p_cap0))]) (o1 : ok_Idx p_x) (o4 : okS p_cap0) : Cal Tryz.prog 75 #[.agg #[.string (bs (p_x.Name)), .int .i64 (p_x.Col), .int .i64 (p_x.Stage)], .pointer (some ⟨b2, 0, none⟩)] w fun v w' => v = .bool ((i_Table_findIdx_c1 p_x p_cap0)) ∧ Ex w w' := by
 refine Cal.of func75 rfl ntmps75 rfl (cR (sd rfl (yl_box rfl rfl rfl ?_)))
 intro b7 w8 hs9 hz10 hB11 hE12
 refine sA rfl (dn (cR (sd rfl (yl_fieldAddr fd35_0 rfl rfl (sd rfl (yl_load1 ty9 rfl rfl ((hB11.cell 0).trans rfl) (sd rfl (yl_load1 ty9 rfl rfl (((Box.ex h3 hE12).cell 0).trans rfl) (sd rfl (yl_seql (a := p_x.Name) (b := p_cap0) rfl rfl rfl ?_))))))))))
 refine sA rfl (dn (CW.ret (rr rfl (.cons rfl .nil) ?_)))
 have hM14 : (i_Table_findIdx_c1 p_x p_cap0) = (p_x.Name == p_cap0) := by simp only [i_Table_findIdx_c1, cL]
 rw [hM14]
 exact ⟨rfl, (Ex.trans (Ex.refl w) hE12)⟩
theorem c_i_Table_findIdx {A1 : Option Addr} {c1 : Nat} {A2 : Option Addr} {c2 : Nat} {w : World} (p_t : DTable) (pn : Str) (h1 : RdS w (Iv 0 w.heap.size) (RF e_Str) 1 A1 p_t.Cols.length c1 p_t.Cols) (h2 : RdS w (Iv 0 w.heap.size) (RF e_Idx) 3 A2 p_t.Idxs.length c2 p_t.Idxs) (o3 : ok_Table p_t) (o4 : okS pn) : Cal Tryz.prog 61 #[.agg #[.string (bs (p_t.Name)), .slice A1 p_t.Cols.length c1, .slice A2 p_t.Idxs.length c2], .string (bs (pn))] w fun v w' => v = .int .i64 ((i_Table_findIdx p_t pn)) ∧ Ex w w' := by
 refine Cal.of func61 rfl ntmps61 rfl (cR (sd rfl (yl_box rfl rfl rfl ?_)))
 intro b9 w10 hs11 hz12 hB13 hE14
 refine sd rfl (yl_box rfl rfl rfl ?_)
 intro b15 w16 hs17 hz18 hB19 hE20
 refine sA rfl (dn (cR (sd rfl (yl_fieldAddr fd26_2 rfl rfl (sd rfl (yl_load1 ty24 rfl rfl (((Box.ex hB13 hE20).cell 2).trans rfl) (sd rfl (yl_makeFunc rfl (oc rfl oz) (sd rfl (yC en74 rfl (oc rfl (oc rfl oz)) (Cal.mono (c_g_slices_IndexFunc_Idx p_t.Idxs (fun y0 => i_Table_findIdx_c1 y0 pn) (RdS.up (RdS.ex gI (RdS.ex gI h2 hE14) hE20) gI) en75 (fun _ y0 => fun hE hm0 ov0 => c_i_Table_findIdx_c1 y0 pn (Box.ex hB19 hE) ov0 o4) o3.2.2) ?_)))))))))))
 rintro v25 w24 ⟨rfl, hE26⟩
 refine sA rfl (dn (CW.ret (rr rfl (.cons rfl .nil) ?_)))
 have hM27 : (i_Table_findIdx p_t pn) = ((g_slices_IndexFunc_Idx p_t.Idxs (fun y0 => i_Table_findIdx_c1 y0 pn))) := by simp only [i_Table_findIdx, cL]
 rw [hM27]
 exact ⟨rfl, (Ex.trans (Ex.trans (Ex.trans (Ex.refl w) hE14) hE20) hE26)⟩
theorem c_i_hasIdx {A1 : Option Addr} {c1 : Nat} {A2 : Option Addr} {c2 : Nat} {w : World} (p_t : DTable) (pn : Str) (h1 : RdS w (Iv 0 w.heap.size) (RF e_Str) 1 A1 p_t.Cols.length c1 p_t.Cols) (h2 : RdS w (Iv 0 w.heap.size) (RF e_Idx) 3 A2 p_t.Idxs.length c2 p_t.Idxs) (o3 : ok_Table p_t) (o4 : okS pn) : Cal Tryz.prog 26 #[.agg #[.string (bs (p_t.Name)), .slice A1 p_t.Cols.length c1, .slice A2 p_t.Idxs.length c2], .string (bs (pn))] w fun v w' => v = .bool ((i_hasIdx p_t pn)) ∧ Ex w w' := by
 refine Cal.of func26 rfl ntmps26 rfl (cR (sd rfl (yl_box rfl rfl rfl ?_)))
 intro b9 w10 hs11 hz12 hB13 hE14
 refine sA rfl (dn (cR (sd rfl (yl_loadN ty26 rfl rfl (hB13.cells (n := 3) rfl) rfl ?_))))
 have q15 := RdS.ex gS h1 hE14
 have q16 := RdS.ex gI h2 hE14
 refine sd rfl (yC en13 rfl (oc rfl oz) (Cal.mono (c_i_GoodTable p_t (RdS.up q15 gS) (RdS.up q16 gI) o3) ?_))
 rintro v18 w17 ⟨rfl, hE19⟩
 refine sM rfl (bcase (i_GoodTable p_t) (fun hb20 => ?_) (fun hb20 => ?_))
 ·have hb20p := f_i_GoodTable hb20
  refine sy rfl rfl hb20 (yl_loadN ty26 rfl rfl ((Box.ex hB13 hE19).cells (n := 3) rfl) rfl (sy rfl rfl hb20 (yM rfl rfl (sy rfl rfl hb20 (yC en61 rfl (oc rfl (oc rfl oz)) (Cal.mono (c_i_Table_findIdx p_t pn (RdS.up (RdS.ex gS q15 hE19) gS) (RdS.up (RdS.ex gI q16 hE19) gI) o3 o4) ?_))))))
  rintro v25 w24 ⟨rfl, hE26⟩
  have hrf27 := rf_i_findIdx p_t pn
  refine sy rfl rfl hb20 (yl_geq rfl rfl rfl (sd rfl (yl_pick_t rfl rfl hb20 rfl (sA rfl (dn (CW.ret (rr rfl (.cons rfl .nil) ?_)))))))
  have hM28 : (i_hasIdx p_t pn) = (decide (0 ≤ (i_Table_findIdx p_t pn))) := by simp only [i_hasIdx, hb20, cL]
  rw [hM28]
  exact ⟨rfl, (Ex.trans (Ex.trans (Ex.trans (Ex.refl w) hE14) hE19) hE26)⟩
 ·refine sz rfl rfl hb20 (sz rfl rfl hb20 (sz rfl rfl hb20 (sz rfl rfl hb20 (sd rfl (yl_pick_f rfl rfl hb20 rfl (sA rfl (dn (CW.ret ?_))))))))
  refine rr rfl (.cons rfl .nil) ?_
  have hM32 : (i_hasIdx p_t pn) = (false) := by simp only [i_hasIdx, hb20, cL]
  rw [hM32]
  exact ⟨rfl, (Ex.trans (Ex.trans (Ex.refl w) hE14) hE19)⟩
theorem c_g_slices_Clone_string {A1 : Option Addr} {c1 : Nat} {w : World} (p_s : List Str) (h1 : RdS w (Iv 0 w.heap.size) (RF e_Str) 1 A1 p_s.length c1 p_s) (o2 : (okL okS) p_s) : Cal Tryz.prog 76 #[.slice A1 p_s.length c1] w fun v w' => ∃ A_1 c_1 lo_1 hi_1, v = .slice A_1 ((g_slices_Clone_string p_s).length) c_1 ∧ OwnL w' lo_1 hi_1 9 1 (RF e_Str) A_1 ((g_slices_Clone_string p_s).length) c_1 (g_slices_Clone_string p_s) ∧ (okL okS) (g_slices_Clone_string p_s) ∧ (w.heap.size ≤ lo_1 ∧ lo_1 ≤ hi_1 ∧ hi_1 ≤ w'.heap.size) ∧ Ex w w' := by
 have hol3 := o2.1
 refine Cal.of func76 rfl ntmps76 rfl (cR (sA rfl (dn (CW.seq (cR ?_)))))
 refine sM rfl (sd rfl (yl_snil un23 rfl rfl rfl (dn (bcase (A1.isNone) (fun hb4 => ?_) (fun hb4 => ?_)))))
 ·have hnil5 : p_s = [] := RdS.nilA h1 hb4
  refine CW.cond_t rfl hb4 (cR (sA rfl (dn (CW.ret (tr (rr rfl (.cons rfl .nil) ?_))))))
  have hM6 : (g_slices_Clone_string p_s) = (([] : List Str)) := by simp only [g_slices_Clone_string, hnil5, cond_true, cond_false, loopE_done, loopE_ret, List.append_nil]
  rw [hM6]
  exact ⟨none, 0, w.heap.size, w.heap.size, rfl, (OwnL.nil _ _ _ _ _ _), (okL.nil _), oM, (Ex.refl w)⟩
 ·refine CW.cond_f rfl hb4 (CW.skip (tn (cR (sd rfl (yl_buildSlice (cs := []) un23 ty9 (by decide) rfl opvs_nil (by kernel_rfl) ?_)))))
  intro b7 w8 hs9 hz10 hB11 hE12
  have hO13 : OwnL w8 b7 (b7 + 1) 9 1 (RF e_Str) (some ⟨b7, 0, none⟩) 0 0 ([] : List Str) := OwnL.of_box (S := fun _ => False) hB11 (Nat.le_refl _) (Nat.lt_succ_self _) EncL.nil (nb rfl) (fun h => h) (fun _ h => False.elim h)
  refine sM rfl ?_
  obtain ⟨nw15, he16, hs17⟩ := RdS.src (RdS.ex gS h1 hE12)
  have hol18 : p_s.length ≤ 2147483648 := o2.1
  refine sd rfl (yl_appendL (S := (fun _ => False)) (lo := b7) (hi := (b7 + 1)) (xs := ([] : List Str)) (ys := p_s) gS un23 ty9 rfl (nb rfl) rfl rfl rfl hO13 he16 hs17 rfl Bl Bl oM oM (fun _ h _ => False.elim h) oM ?_)
  intro A19 c20 w21 row22 hO23 hG24 hrg25
  have hG24z := hG24.size
  refine sA rfl (dn (CW.ret (rr rfl (.cons rfl .nil) ?_)))
  have hM26 : (g_slices_Clone_string p_s) = ((([] : List Str) ++ p_s)) := by simp only [g_slices_Clone_string, cL]
  have hol27 : p_s.length ≤ 2147483648 := o2.1
  rw [hM26]
  exact ⟨A19, c20, b7, w21.heap.size, rfl, hO23, (okL.mk (xs := (([] : List Str) ++ p_s)) Bl (okE.append okE.nil (o2).2)), oM, (Below.grown (Ex.trans (Ex.refl w) hE12) hG24 oM (fun k hk => by have := hrg25 k hk; omega))⟩
theorem c_g_slices_Clone_Idx {A1 : Option Addr} {c1 : Nat} {w : World} (p_s : List DIdx) (h1 : RdS w (Iv 0 w.heap.size) (RF e_Idx) 3 A1 p_s.length c1 p_s) (o2 : (okL ok_Idx) p_s) : Cal Tryz.prog 77 #[.slice A1 p_s.length c1] w fun v w' => ∃ A_1 c_1 lo_1 hi_1, v = .slice A_1 ((g_slices_Clone_Idx p_s).length) c_1 ∧ OwnL w' lo_1 hi_1 35 3 (RF e_Idx) A_1 ((g_slices_Clone_Idx p_s).length) c_1 (g_slices_Clone_Idx p_s) ∧ (okL ok_Idx) (g_slices_Clone_Idx p_s) ∧ (w.heap.size ≤ lo_1 ∧ lo_1 ≤ hi_1 ∧ hi_1 ≤ w'.heap.size) ∧ Ex w w' := by
 have hol3 := o2.1
 refine Cal.of func77 rfl ntmps77 rfl (cR (sA rfl (dn (CW.seq (cR ?_)))))
 refine sM rfl (sd rfl (yl_snil un24 rfl rfl rfl (dn (bcase (A1.isNone) (fun hb4 => ?_) (fun hb4 => ?_)))))
 ·have hnil5 : p_s = [] := RdS.nilA h1 hb4
  refine CW.cond_t rfl hb4 (cR (sA rfl (dn (CW.ret (tr (rr rfl (.cons rfl .nil) ?_))))))
  have hM6 : (g_slices_Clone_Idx p_s) = (([] : List DIdx)) := by simp only [g_slices_Clone_Idx, hnil5, cond_true, cond_false, loopE_done, loopE_ret, List.append_nil]
  rw [hM6]
  exact ⟨none, 0, w.heap.size, w.heap.size, rfl, (OwnL.nil _ _ _ _ _ _), (okL.nil _), oM, (Ex.refl w)⟩
 ·refine CW.cond_f rfl hb4 (CW.skip (tn (cR (sd rfl (yl_buildSlice (cs := []) un24 ty35 (by decide) rfl opvs_nil (by kernel_rfl) ?_)))))
  intro b7 w8 hs9 hz10 hB11 hE12
  have hO13 : OwnL w8 b7 (b7 + 1) 35 3 (RF e_Idx) (some ⟨b7, 0, none⟩) 0 0 ([] : List DIdx) := OwnL.of_box (S := fun _ => False) hB11 (Nat.le_refl _) (Nat.lt_succ_self _) EncL.nil (nb rfl) (fun h => h) (fun _ h => False.elim h)
  refine sM rfl ?_
  obtain ⟨nw15, he16, hs17⟩ := RdS.src (RdS.ex gI h1 hE12)
  have hol18 : p_s.length ≤ 2147483648 := o2.1
  refine sd rfl (yl_appendL (S := (fun _ => False)) (lo := b7) (hi := (b7 + 1)) (xs := ([] : List DIdx)) (ys := p_s) gI un24 ty35 rfl (nb rfl) rfl rfl rfl hO13 he16 hs17 rfl Bl Bl oM oM (fun _ h _ => False.elim h) oM ?_)
  intro A19 c20 w21 row22 hO23 hG24 hrg25
  have hG24z := hG24.size
  refine sA rfl (dn (CW.ret (rr rfl (.cons rfl .nil) ?_)))
  have hM26 : (g_slices_Clone_Idx p_s) = ((([] : List DIdx) ++ p_s)) := by simp only [g_slices_Clone_Idx, cL]
  have hol27 : p_s.length ≤ 2147483648 := o2.1
  rw [hM26]
  exact ⟨A19, c20, b7, w21.heap.size, rfl, hO23, (okL.mk (xs := (([] : List DIdx) ++ p_s)) Bl (okE.append okE.nil (o2).2)), oM, (Below.grown (Ex.trans (Ex.refl w) hE12) hG24 oM (fun k hk => by have := hrg25 k hk; omega))⟩
theorem c_i_copyTable {A1 : Option Addr} {c1 : Nat} {A2 : Option Addr} {c2 : Nat} {w : World} (p_t : DTable) (h1 : RdS w (Iv 0 w.heap.size) (RF e_Str) 1 A1 p_t.Cols.length c1 p_t.Cols) (h2 : RdS w (Iv 0 w.heap.size) (RF e_Idx) 3 A2 p_t.Idxs.length c2 p_t.Idxs) (o3 : ok_Table p_t) : Cal Tryz.prog 62 #[.agg #[.string (bs (p_t.Name)), .slice A1 p_t.Cols.length c1, .slice A2 p_t.Idxs.length c2]] w fun v w' => ∃ A_1 c_1 lo_1 hi_1 A_2 c_2 lo_2 hi_2, v = .agg #[.string (bs ((i_copyTable p_t).Name)), .slice A_1 (((i_copyTable p_t).Cols).length) c_1, .slice A_2 (((i_copyTable p_t).Idxs).length) c_2] ∧ OwnL w' lo_1 hi_1 9 1 (RF e_Str) A_1 (((i_copyTable p_t).Cols).length) c_1 ((i_copyTable p_t).Cols) ∧ OwnL w' lo_2 hi_2 35 3 (RF e_Idx) A_2 (((i_copyTable p_t).Idxs).length) c_2 ((i_copyTable p_t).Idxs) ∧ ok_Table (i_copyTable p_t) ∧ (w.heap.size ≤ lo_1 ∧ lo_1 ≤ hi_1 ∧ hi_1 ≤ w'.heap.size) ∧ (w.heap.size ≤ lo_2 ∧ lo_2 ≤ hi_2 ∧ hi_2 ≤ w'.heap.size) ∧ (hi_1 ≤ lo_2 ∨ hi_2 ≤ lo_1) ∧ Ex w w' := by
 have hol4 : p_t.Name.length ≤ 1073741824 := o3.1
 have hol5 := o3.2.1.1
 have hol6 := o3.2.2.1
 refine Cal.of func62 rfl ntmps62 rfl (cR (sd rfl (yl_box rfl rfl rfl ?_)))
 intro b7 w8 hs9 hz10 hB11 hE12
 refine sd rfl (yB ty26 (cs := [.string (bs (([] : Str))), .slice none 0 0, .slice none 0 0]) rfl rfl ?_)
 intro b13 w14 hs15 hz16 hB17 hE18
 refine dn (CW.seq ?_)
 have q19 := Box.ex hB11 hE18
 refine CW.drawsI 8 (vgetI [DetI (.pointer (some ⟨b7, 0 + 0, none⟩)), DetI (.string (bs (p_t.Name))), DetI (.pointer (some ⟨b7, 0 + 1, none⟩)), DetI (.slice A1 p_t.Cols.length c1), fun lo hi v wq => ∃ A23 c23 lo23 hi23, v = .slice A23 ((g_slices_Clone_string p_t.Cols).length) c23 ∧ OwnL wq lo23 hi23 9 1 (RF e_Str) A23 ((g_slices_Clone_string p_t.Cols).length) c23 (g_slices_Clone_string p_t.Cols) ∧ (okL okS) (g_slices_Clone_string p_t.Cols) ∧ (lo ≤ lo23 ∧ lo23 ≤ hi23 ∧ hi23 ≤ hi), DetI (.pointer (some ⟨b7, 0 + 2, none⟩)), DetI (.slice A2 p_t.Idxs.length c2), fun lo hi v wq => ∃ A28 c28 lo28 hi28, v = .slice A28 ((g_slices_Clone_Idx p_t.Idxs).length) c28 ∧ OwnL wq lo28 hi28 35 3 (RF e_Idx) A28 ((g_slices_Clone_Idx p_t.Idxs).length) c28 (g_slices_Clone_Idx p_t.Idxs) ∧ (okL ok_Idx) (g_slices_Clone_Idx p_t.Idxs) ∧ (lo ≤ lo28 ∧ lo28 ≤ hi28 ∧ hi28 ≤ hi)]) Tryz.follows rfl rfl rfl rfl rfl rfl (vgetI_stable ⟨StableI.det _, StableI.det _, StableI.det _, StableI.det _, (fun _ _ _ _ _ ⟨A23, c23, lo23, hi23, hv, h23, ho24, hr0⟩ e => ⟨A23, c23, lo23, hi23, hv, OwnL.ex gS h23 e, ho24, hr0⟩), StableI.det _, StableI.det _, (fun _ _ _ _ _ ⟨A28, c28, lo28, hi28, hv, h28, ho29, hr0⟩ e => ⟨A28, c28, lo28, hi28, hv, OwnL.ex gI h28 e, ho29, hr0⟩), trivial⟩) ⟨?_, ?_, ?_, ?_, ?_, ?_, ?_, ?_, trivial⟩ ?_
 ·exact oI rfl fun h => yl_fieldAddr fd26_0 rfl (h.old 1 _ rfl rfl) kI
 ·exact oI rfl fun h => yl_load1 ty9 rfl (h.dt 0 3 rfl rfl rfl) (((Box.ex q19 h.ex).cell 0).trans rfl) kI
 ·exact oI rfl fun h => yl_fieldAddr fd26_1 rfl (h.old 1 _ rfl rfl) kI
 ·exact oI rfl fun h => yl_load1 ty23 rfl (h.dt 2 5 rfl rfl rfl) (((Box.ex q19 h.ex).cell 1).trans rfl) kI
 ·intro L52 w53 hi54
  have hE55 := hi54.ex
  refine OpR.op' rfl (yC en76 rfl (oc (hi54.dt 3 6 rfl rfl rfl) oz) (Cal.mono (c_g_slices_Clone_string p_t.Cols (RdS.up (RdS.ex gS (RdS.ex gS (RdS.ex gS h1 hE12) hE18) hE55) gS) o3.2.1) ?_))
  rintro v61 w58 ⟨A59, c59, lo59, hi59, rfl, h59, ho60, hrn63, hE62⟩
  exact ⟨⟨A59, c59, lo59, hi59, rfl, h59, ho60, hrn63⟩, hE62⟩
 ·exact oI rfl fun h => yl_fieldAddr fd26_2 rfl (h.old 1 _ rfl rfl) kI
 ·exact oI rfl fun h => yl_load1 ty24 rfl (h.dt 5 8 rfl rfl rfl) (((Box.ex q19 h.ex).cell 2).trans rfl) kI
 ·intro L75 w76 hi77
  have hE78 := hi77.ex
  refine OpR.op' rfl (yC en77 rfl (oc (hi77.dt 6 9 rfl rfl rfl) oz) (Cal.mono (c_g_slices_Clone_Idx p_t.Idxs (RdS.up (RdS.ex gI (RdS.ex gI (RdS.ex gI h2 hE12) hE18) hE78) gI) o3.2.2) ?_))
  rintro v84 w81 ⟨A82, c82, lo82, hi82, rfl, h82, ho83, hrn86, hE85⟩
  exact ⟨⟨A82, c82, lo82, hi82, rfl, h82, ho83, hrn86⟩, hE85⟩
 ·intro fl90 fh91 L87 w88 hp89
  have hE92 := hp89.ex
  have hE92z := Ex.size hE92
  have hx93 := hp89.old 2 _ rfl rfl
  have hr96 := hp89.rng 4 rfl
  obtain ⟨_, hx95, A23_97, c23_98, lo23_99, hi23_100, rfl, h101, h102, hrn103⟩ := hp89.new 4 7 rfl rfl
  have hr105 := hp89.rng 7 rfl
  have hsp106 := hp89.sep 4 7 rfl rfl rfl
  obtain ⟨_, hx104, A28_107, c28_108, lo28_109, hi28_110, rfl, h111, h112, hrn113⟩ := hp89.new 7 10 rfl rfl
  refine sd rfl (yl_build (cs := [.string (bs (p_t.Name)), .slice A23_97 ((g_slices_Clone_string p_t.Cols).length) c23_98, .slice A28_107 ((g_slices_Clone_Idx p_t.Idxs).length) c28_108]) rfl (oc (hp89.nt 1 4 rfl rfl rfl) (oc hx95 (oc hx104 oz))) (by kernel_rfl) (SeqR.u rfl rfl (yl_store (vs := [.string (bs (p_t.Name)), .slice A23_97 ((g_slices_Clone_string p_t.Cols).length) c23_98, .slice A28_107 ((g_slices_Clone_Idx p_t.Idxs).length) c28_108]) ty26 rfl hx93 rfl rfl rfl rfl (Box.ex hB17 hE92) (nb rfl) ?_)))
  intro w115 hB116 hO117
  have hB116 : Box w115 b13 26 [.string (bs (p_t.Name)), .slice A23_97 ((g_slices_Clone_string p_t.Cols).length) c23_98, .slice A28_107 ((g_slices_Clone_Idx p_t.Idxs).length) c28_108] := hB116
  have hO117z := hO117.size
  refine dn (CW.sub (sC 2 hx93 (Sub.nil _)) (CW.ret (rr rfl (.cons ⟨_, rfl, run_loadN ty26 (cs := [.string (bs (p_t.Name)), .slice A23_97 ((g_slices_Clone_string p_t.Cols).length) c23_98, .slice A28_107 ((g_slices_Clone_Idx p_t.Idxs).length) c28_108]) rfl (hB116.cells (n := 3) rfl)⟩ .nil) ?_)))
  have hM118 : (i_copyTable p_t) = ((⟨p_t.Name, (g_slices_Clone_string p_t.Cols), (g_slices_Clone_Idx p_t.Idxs)⟩ : DTable)) := by simp only [i_copyTable, cL]
  rw [hM118]
  exact ⟨A23_97, c23_98, lo23_99, hi23_100, A28_107, c28_108, lo28_109, hi28_110, rfl, (OwnL.only gS h101 hO117 oM), (OwnL.only gI h111 hO117 oM), ⟨o3.1, h102, h112⟩, oM, oM, oM, (Below.only (Ex.trans (Ex.trans (Ex.trans (Ex.refl w) hE12) hE18) hE92) hO117 oM)⟩
theorem c_i_Table_withStage {A1 : Option Addr} {c1 : Nat} {A2 : Option Addr} {c2 : Nat} {w : World} (p_t : DTable) (pn : Str) (p_stage : Int) (h1 : RdS w (Iv 0 w.heap.size) (RF e_Str) 1 A1 p_t.Cols.length c1 p_t.Cols) (h2 : RdS w (Iv 0 w.heap.size) (RF e_Idx) 3 A2 p_t.Idxs.length c2 p_t.Idxs) (o3 : ok_Table p_t) (o4 : okS pn) (pre0 : (0 ≤ i_Table_findIdx p_t pn ∧ i_Table_findIdx p_t pn < (p_t.Idxs.length : Int))) : Cal Tryz.prog 31 #[.agg #[.string (bs (p_t.Name)), .slice A1 p_t.Cols.length c1, .slice A2 p_t.Idxs.length c2], .string (bs (pn)), .int .i64 (p_stage)] w fun v w' => ∃ A_1 c_1 lo_1 hi_1 A_2 c_2 lo_2 hi_2, v = .agg #[.string (bs ((i_Table_withStage p_t pn p_stage).Name)), .slice A_1 (((i_Table_withStage p_t pn p_stage).Cols).length) c_1, .slice A_2 (((i_Table_withStage p_t pn p_stage).Idxs).length) c_2] ∧ OwnL w' lo_1 hi_1 9 1 (RF e_Str) A_1 (((i_Table_withStage p_t pn p_stage).Cols).length) c_1 ((i_Table_withStage p_t pn p_stage).Cols) ∧ OwnL w' lo_2 hi_2 35 3 (RF e_Idx) A_2 (((i_Table_withStage p_t pn p_stage).Idxs).length) c_2 ((i_Table_withStage p_t pn p_stage).Idxs) ∧ ok_Table (i_Table_withStage p_t pn p_stage) ∧ (w.heap.size ≤ lo_1 ∧ lo_1 ≤ hi_1 ∧ hi_1 ≤ w'.heap.size) ∧ (w.heap.size ≤ lo_2 ∧ lo_2 ≤ hi_2 ∧ hi_2 ≤ w'.heap.size) ∧ (hi_1 ≤ lo_2 ∨ hi_2 ≤ lo_1) ∧ Ex w w' := by
 have hol5 : p_t.Name.length ≤ 1073741824 := o3.1
 have hol6 := o3.2.1.1
 have hol7 := o3.2.2.1
 have hol8 : pn.length ≤ 1073741824 := o4
 refine Cal.of func31 rfl ntmps31 rfl (cR (sd rfl (yl_box rfl rfl rfl ?_)))
 intro b9 w10 hs11 hz12 hB13 hE14
 refine sd rfl (yB ty26 (cs := [.string (bs (([] : Str))), .slice none 0 0, .slice none 0 0]) rfl rfl ?_)
 intro b15 w16 hs17 hz18 hB19 hE20
 refine dn (cR ?_)
 have q21 := Box.ex hB13 hE20
 refine sd rfl (yl_loadN ty26 rfl rfl (q21.cells (n := 3) rfl) rfl ?_)
 have q23 := RdS.ex gS (RdS.ex gS h1 hE14) hE20
 have q25 := RdS.ex gI (RdS.ex gI h2 hE14) hE20
 refine sd rfl (yC en62 rfl (oc rfl oz) (Cal.mono (c_i_copyTable p_t (RdS.up q23 gS) (RdS.up q25 gI) o3) ?_))
 rintro v30 w26 ⟨A27, c27, lo27, hi27, A28, c28, lo28, hi28, rfl, h27, h28, ho29, hrn32, hrn33, hrn34, hE31⟩
 have hE31z := Ex.size hE31
 have hrf35 := rf_copyTable p_t
 refine sd rfl (yB ty26 (cs := [.string (bs (([] : Str))), .slice none 0 0, .slice none 0 0]) rfl rfl ?_)
 intro b36 w37 hs38 hz39 hB40 hE41
 refine SeqR.u rfl rfl (yl_store (vs := [.string (bs ((i_copyTable p_t).Name)), .slice A27 (((i_copyTable p_t).Cols).length) c27, .slice A28 (((i_copyTable p_t).Idxs).length) c28]) ty26 rfl rfl rfl rfl rfl rfl hB40 (nb rfl) ?_)
 intro w42 hB43 hO44
 have hB43 : Box w42 b36 26 [.string (bs ((i_copyTable p_t).Name)), .slice A27 (((i_copyTable p_t).Cols).length) c27, .slice A28 (((i_copyTable p_t).Idxs).length) c28] := hB43
 have hO44z := hO44.size
 refine dn (CW.seq ?_)
 have hrf55 := rf_i_findIdx p_t pn
 refine drI 6 [.pointer (some ⟨b36, 0 + 2, none⟩), .slice A28 (((i_copyTable p_t).Idxs).length) c28, .agg #[.string (bs (p_t.Name)), .slice A1 p_t.Cols.length c1, .slice A2 p_t.Idxs.length c2], .string (bs (pn)), .int .i64 ((i_Table_findIdx p_t pn)), .int .i64 (p_stage)] Tryz.follows rfl ⟨?_, ?_, ?_, ?_, ?_, ?_, trivial⟩ ?_
 ·exact oI rfl fun h => yl_fieldAddr fd26_2 rfl (h.old 7 _ rfl rfl) kI
 ·exact oI rfl fun h => yl_load1 ty24 rfl (h.dt 0 10 rfl rfl rfl) (((Box.ex hB43 h.ex).cell 2).trans rfl) kI
 ·intro L67 w68 hi69
  have hE70 := hi69.ex
  have hE70z := Ex.size hE70
  exact os rfl ((yl_loadN ty26 rfl (hi69.old 3 _ rfl rfl) ((Box.ex (Box.only (Box.ex (Box.ex q21 hE31) hE41) hO44 oM) hE70).cells (n := 3) rfl) rfl kI))
 ·exact oI rfl fun h => yM rfl (h.old 1 _ rfl rfl) kI
 ·intro L78 w79 hi80
  have hE81 := hi80.ex
  have hE81z := Ex.size hE81
  exact OpR.op' rfl (yC en61 rfl (oc (hi80.dt 2 12 rfl rfl rfl) (oc (hi80.dt 3 13 rfl rfl rfl) oz)) (Cal.mono (c_i_Table_findIdx p_t pn (RdS.up (RdS.ex gS (RdS.only gS (RdS.ex gS (RdS.ex gS q23 hE31) hE41) hO44 (by simp only [Iv]; omega)) hE81) gS) (RdS.up (RdS.ex gI (RdS.only gI (RdS.ex gI (RdS.ex gI q25 hE31) hE41) hO44 (by simp only [Iv]; omega)) hE81) gI) o3 o4) fun _ _ h => h))
 ·exact oI rfl fun h => yM rfl (h.old 2 _ rfl rfl) kI
 ·intro fl97 fh98 L94 w95 hp96
  have hE99 := hp96.ex
  have hE99z := Ex.size hE99
  have q108 := OwnL.ex gI (OwnL.only gI (OwnL.ex gI h28 hE41) hO44 oM) hE99
  obtain ⟨eb109, eo109, _, eA109, _, ebl109, _, eR109, eC109⟩ := RdS.atD (OwnL.rd gI q108) d_Idx (i := ((i_Table_findIdx p_t pn)).toNat) Bo
  obtain rfl := eR109
  have eC109 : Cells w95 eb109 (eo109 + (((i_Table_findIdx p_t pn)).toNat) * 3) [.string (bs ((((i_copyTable p_t).Idxs).getD (((i_Table_findIdx p_t pn)).toNat) d_Idx).Name)), .int .i64 ((((i_copyTable p_t).Idxs).getD (((i_Table_findIdx p_t pn)).toNat) d_Idx).Col), .int .i64 ((((i_copyTable p_t).Idxs).getD (((i_Table_findIdx p_t pn)).toNat) d_Idx).Stage)] := eC109
  refine sd rfl (yl_indexAddr un24 ty35 rfl (hp96.nt 1 11 rfl rfl rfl) (hp96.nt 4 14 rfl rfl rfl) eA109 Bo Bo (sd rfl (yl_fieldAddr fd35_2 rfl rfl ?_)))
  have hrg110 := OwnL.rng q108 (i := ((i_Table_findIdx p_t pn)).toNat) Bo eb109 (by rw [eA109]; rfl)
  refine SeqR.u rfl rfl (yl_storeF (off := eo109) (i := ((i_Table_findIdx p_t pn)).toNat) (d := 2) (dx := d_Idx) (x' := (⟨(((i_copyTable p_t).Idxs).getD (((i_Table_findIdx p_t pn)).toNat) d_Idx).Name, (((i_copyTable p_t).Idxs).getD (((i_Table_findIdx p_t pn)).toNat) d_Idx).Col, p_stage⟩ : DIdx)) (vs := [.int .i64 (p_stage)]) ty3 rfl q108 eA109 rfl (hp96.nt 5 15 rfl rfl rfl) rfl rfl rfl Bo (nb rfl) rfl rfl ?_)
  intro w111 hB112 hO113
  have hO113z := hO113.size
  refine dn (CW.sub (sC 6 (hp96.old 6 _ rfl rfl) (sC 7 (hp96.old 7 _ rfl rfl) (Sub.nil _))) (cR (sd rfl (yl_loadN ty26 rfl rfl ((Box.only (Box.ex hB43 hE99) hO113 oM).cells (n := 3) rfl) rfl (SeqR.u rfl rfl (yl_store (vs := [.string (bs ((i_copyTable p_t).Name)), .slice A27 (((i_copyTable p_t).Cols).length) c27, .slice A28 (((i_copyTable p_t).Idxs).length) c28]) ty26 rfl rfl rfl rfl rfl rfl (Box.only (Box.ex (Box.only (Box.ex (Box.ex hB19 hE31) hE41) hO44 oM) hE99) hO113 oM) (nb rfl) ?_))))))
  intro w121 hB122 hO123
  have hB122 : Box w121 b15 26 [.string (bs ((i_copyTable p_t).Name)), .slice A27 (((i_copyTable p_t).Cols).length) c27, .slice A28 (((i_copyTable p_t).Idxs).length) c28] := hB122
  have hO123z := hO123.size
  refine dn (CW.ret (rr rfl (.cons ⟨_, rfl, run_loadN ty26 (cs := [.string (bs ((i_copyTable p_t).Name)), .slice A27 (((i_copyTable p_t).Cols).length) c27, .slice A28 (((i_copyTable p_t).Idxs).length) c28]) rfl (hB122.cells (n := 3) rfl)⟩ .nil) ?_))
  have hM124 : (i_Table_withStage p_t pn p_stage) = ((⟨(i_copyTable p_t).Name, (i_copyTable p_t).Cols, (((i_copyTable p_t).Idxs).set (((i_Table_findIdx p_t pn)).toNat) (⟨(((i_copyTable p_t).Idxs).getD (((i_Table_findIdx p_t pn)).toNat) d_Idx).Name, (((i_copyTable p_t).Idxs).getD (((i_Table_findIdx p_t pn)).toNat) d_Idx).Col, p_stage⟩ : DIdx))⟩ : DTable)) := by simp only [i_Table_withStage, cL]
  have q130 := OwnL.only gI hB112 hO123 oM
  have hfx131 := (q130).1
  have hol132 : ((i_copyTable p_t).Idxs).length ≤ 2147483648 := ho29.2.2.1
  rw [hM124]
  exact ⟨A27, c27, lo27, hi27, A28, c28, lo28, hi28, (by first | rfl | (simp only [List.length_replicate, List.length_set]; done) | (simp only [List.length_replicate, List.length_set]; rfl) | rw [hfx131]), (OwnL.only gS (OwnL.only gS (OwnL.ex gS (OwnL.only gS (OwnL.ex gS h27 hE41) hO44 oM) hE99) hO113 oM) hO123 oM), (OwnL.fix q130), ⟨ho29.1, ho29.2.1, (okL.mk (xs := (((i_copyTable p_t).Idxs).set (((i_Table_findIdx p_t pn)).toNat) (⟨(((i_copyTable p_t).Idxs).getD (((i_Table_findIdx p_t pn)).toNat) d_Idx).Name, (((i_copyTable p_t).Idxs).getD (((i_Table_findIdx p_t pn)).toNat) d_Idx).Col, p_stage⟩ : DIdx))) Bl (okE.set (ho29.2.2).2 (okL.getD ho29.2.2 ok_d_Idx _)))⟩, oM, oM, oM, (Below.only (Below.only (Ex.trans (Below.only (Ex.trans (Ex.trans (Ex.trans (Ex.trans (Ex.refl w) hE14) hE20) hE31) hE41) hO44 oM) hE99) hO113 oM) hO123 oM)⟩
theorem c_i_Table_idx {A1 : Option Addr} {c1 : Nat} {A2 : Option Addr} {c2 : Nat} {w : World} (p_t : DTable) (pn : Str) (h1 : RdS w (Iv 0 w.heap.size) (RF e_Str) 1 A1 p_t.Cols.length c1 p_t.Cols) (h2 : RdS w (Iv 0 w.heap.size) (RF e_Idx) 3 A2 p_t.Idxs.length c2 p_t.Idxs) (o3 : ok_Table p_t) (o4 : okS pn) (pre0 : (0 ≤ i_Table_findIdx p_t pn ∧ i_Table_findIdx p_t pn < (p_t.Idxs.length : Int))) : Cal Tryz.prog 33 #[.agg #[.string (bs (p_t.Name)), .slice A1 p_t.Cols.length c1, .slice A2 p_t.Idxs.length c2], .string (bs (pn))] w fun v w' => v = .agg #[.string (bs ((i_Table_idx p_t pn).Name)), .int .i64 ((i_Table_idx p_t pn).Col), .int .i64 ((i_Table_idx p_t pn).Stage)] ∧ ok_Idx (i_Table_idx p_t pn) ∧ Ex w w' := by
 have hol5 : p_t.Name.length ≤ 1073741824 := o3.1
 have hol6 := o3.2.1.1
 have hol7 := o3.2.2.1
 have hol8 : pn.length ≤ 1073741824 := o4
 refine Cal.of func33 rfl ntmps33 rfl (cR (sd rfl (yl_box rfl rfl rfl ?_)))
 intro b9 w10 hs11 hz12 hB13 hE14
 refine sd rfl (yB ty35 (cs := [.string (bs (([] : Str))), .int .i64 (0), .int .i64 (0)]) rfl rfl ?_)
 intro b15 w16 hs17 hz18 hB19 hE20
 refine dn (CW.seq ?_)
 have q21 := Box.ex hB13 hE20
 have q25 := RdS.ex gI (RdS.ex gI h2 hE14) hE20
 have hrf27 := rf_i_findIdx p_t pn
 refine drI 5 [.pointer (some ⟨b9, 0 + 2, none⟩), .slice A2 p_t.Idxs.length c2, .agg #[.string (bs (p_t.Name)), .slice A1 p_t.Cols.length c1, .slice A2 p_t.Idxs.length c2], .string (bs (pn)), .int .i64 ((i_Table_findIdx p_t pn))] Tryz.follows rfl ⟨?_, ?_, ?_, ?_, ?_, trivial⟩ ?_
 ·exact oI rfl fun h => yl_fieldAddr fd26_2 rfl (h.old 2 _ rfl rfl) kI
 ·exact oI rfl fun h => yl_load1 ty24 rfl (h.dt 0 5 rfl rfl rfl) (((Box.ex q21 h.ex).cell 2).trans rfl) kI
 ·exact oI rfl fun h => yl_loadN ty26 rfl (h.old 2 _ rfl rfl) ((Box.ex q21 h.ex).cells (n := 3) rfl) rfl kI
 ·exact oI rfl fun h => yM rfl (h.old 1 _ rfl rfl) kI
 ·intro L50 w51 hi52
  have hE53 := hi52.ex
  exact OpR.op' rfl (yC en61 rfl (oc (hi52.dt 2 7 rfl rfl rfl) (oc (hi52.dt 3 8 rfl rfl rfl) oz)) (Cal.mono (c_i_Table_findIdx p_t pn (RdS.up (RdS.ex gS (RdS.ex gS (RdS.ex gS h1 hE14) hE20) hE53) gS) (RdS.up (RdS.ex gI q25 hE53) gI) o3 o4) fun _ _ h => h))
 ·intro fl64 fh65 L61 w62 hp63
  have hE66 := hp63.ex
  have hE66z := Ex.size hE66
  have hx67 := hp63.old 4 _ rfl rfl
  obtain ⟨eb71, eo71, _, eA71, _, ebl71, _, eR71, eC71⟩ := RdS.atD (RdS.ex gI q25 hE66) d_Idx (i := ((i_Table_findIdx p_t pn)).toNat) Bo
  obtain rfl := eR71
  have eC71 : Cells w62 eb71 (eo71 + (((i_Table_findIdx p_t pn)).toNat) * 3) [.string (bs ((p_t.Idxs.getD (((i_Table_findIdx p_t pn)).toNat) d_Idx).Name)), .int .i64 ((p_t.Idxs.getD (((i_Table_findIdx p_t pn)).toNat) d_Idx).Col), .int .i64 ((p_t.Idxs.getD (((i_Table_findIdx p_t pn)).toNat) d_Idx).Stage)] := eC71
  refine sd rfl (yl_indexAddr un24 ty35 rfl (hp63.nt 1 6 rfl rfl rfl) (hp63.nt 4 9 rfl rfl rfl) eA71 Bo Bo (sd rfl (yl_loadN ty35 rfl rfl eC71 rfl (SeqR.u rfl rfl (yl_store (vs := [.string (bs ((p_t.Idxs.getD (((i_Table_findIdx p_t pn)).toNat) d_Idx).Name)), .int .i64 ((p_t.Idxs.getD (((i_Table_findIdx p_t pn)).toNat) d_Idx).Col), .int .i64 ((p_t.Idxs.getD (((i_Table_findIdx p_t pn)).toNat) d_Idx).Stage)]) ty35 rfl hx67 rfl rfl rfl rfl (Box.ex hB19 hE66) (nb rfl) ?_)))))
  intro w73 hB74 hO75
  have hB74 : Box w73 b15 35 [.string (bs ((p_t.Idxs.getD (((i_Table_findIdx p_t pn)).toNat) d_Idx).Name)), .int .i64 ((p_t.Idxs.getD (((i_Table_findIdx p_t pn)).toNat) d_Idx).Col), .int .i64 ((p_t.Idxs.getD (((i_Table_findIdx p_t pn)).toNat) d_Idx).Stage)] := hB74
  have hO75z := hO75.size
  refine dn (CW.sub (sC 4 hx67 (Sub.nil _)) (CW.ret (rr rfl (.cons ⟨_, rfl, run_loadN ty35 (cs := [.string (bs ((p_t.Idxs.getD (((i_Table_findIdx p_t pn)).toNat) d_Idx).Name)), .int .i64 ((p_t.Idxs.getD (((i_Table_findIdx p_t pn)).toNat) d_Idx).Col), .int .i64 ((p_t.Idxs.getD (((i_Table_findIdx p_t pn)).toNat) d_Idx).Stage)]) rfl (hB74.cells (n := 3) rfl)⟩ .nil) ?_)))
  have hM76 : (i_Table_idx p_t pn) = ((p_t.Idxs.getD (((i_Table_findIdx p_t pn)).toNat) d_Idx)) := by simp only [i_Table_idx, cL]
  rw [hM76]
  exact ⟨rfl, (okL.getD o3.2.2 ok_d_Idx _), (Below.only (Ex.trans (Ex.trans (Ex.trans (Ex.refl w) hE14) hE20) hE66) hO75 oM)⟩
theorem c_i_Table_wayTo {A1 : Option Addr} {c1 : Nat} {A2 : Option Addr} {c2 : Nat} {w : World} (p_t : DTable) (pn : Str) (p_stage : Int) (h1 : RdS w (Iv 0 w.heap.size) (RF e_Str) 1 A1 p_t.Cols.length c1 p_t.Cols) (h2 : RdS w (Iv 0 w.heap.size) (RF e_Idx) 3 A2 p_t.Idxs.length c2 p_t.Idxs) (o3 : ok_Table p_t) (o4 : okS pn) (pre0 : (0 ≤ i_Table_findIdx p_t pn ∧ i_Table_findIdx p_t pn < (p_t.Idxs.length : Int))) (pre1 : (0 ≤ (i_Table_idx p_t pn).Stage ∧ (i_Table_idx p_t pn).Stage ≤ 3)) (pre2 : (0 ≤ p_stage ∧ p_stage ≤ 3)) : Cal Tryz.prog 28 #[.agg #[.string (bs (p_t.Name)), .slice A1 p_t.Cols.length c1, .slice A2 p_t.Idxs.length c2], .string (bs (pn)), .int .i64 (p_stage)] w fun v w' => ∃ A_1 c_1 lo_1 hi_1, v = .slice A_1 ((i_Table_wayTo p_t pn p_stage).length) c_1 ∧ OwnD w' lo_1 hi_1 26 3 RO_Table A_1 ((i_Table_wayTo p_t pn p_stage).length) c_1 (i_Table_wayTo p_t pn p_stage) ∧ (okL ok_Table) (i_Table_wayTo p_t pn p_stage) ∧ (w.heap.size ≤ lo_1 ∧ lo_1 ≤ hi_1 ∧ hi_1 ≤ w'.heap.size) ∧ Ex w w' := by
 have hol5 : p_t.Name.length ≤ 1073741824 := o3.1
 have hol6 := o3.2.1.1
 have hol7 := o3.2.2.1
 have hol8 : pn.length ≤ 1073741824 := o4
 refine Cal.of func28 rfl ntmps28 rfl (cR (sd rfl (yl_box rfl rfl rfl ?_)))
 intro b9 w10 hs11 hz12 hB13 hE14
 refine sA rfl (dn (cR (sd rfl (yl_loadN ty26 rfl rfl (hB13.cells (n := 3) rfl) rfl (sM rfl ?_)))))
 have q15 := RdS.ex gS h1 hE14
 have q16 := RdS.ex gI h2 hE14
 refine sd rfl (yC en33 rfl (oc rfl (oc rfl oz)) (Cal.mono (c_i_Table_idx p_t pn (RdS.up q15 gS) (RdS.up q16 gI) o3 o4 Bo) ?_))
 rintro v19 w17 ⟨rfl, ho18, hE20⟩
 have hE20z := Ex.size hE20
 refine sd rfl (yl_field1 fd35_2 rfl rfl rfl (sA rfl (dn (cR ?_))))
 have q21 := Box.ex hB13 hE20
 refine sd rfl (yl_loadN ty26 rfl rfl (q21.cells (n := 3) rfl) rfl ?_)
 have q22 := RdS.ex gS q15 hE20
 have q23 := RdS.ex gI q16 hE20
 refine sd rfl (yC en62 rfl (oc rfl oz) (Cal.mono (c_i_copyTable p_t (RdS.up q22 gS) (RdS.up q23 gI) o3) ?_))
 rintro v28 w24 ⟨A25, c25, lo25, hi25, A26, c26, lo26, hi26, rfl, h25, h26, ho27, hrn30, hrn31, hrn32, hE29⟩
 have hE29z := Ex.size hE29
 have hrf33 := rf_copyTable p_t
 refine sd rfl (yl_buildSlice (cs := [.string (bs ((i_copyTable p_t).Name)), .slice A25 (((i_copyTable p_t).Cols).length) c25, .slice A26 (((i_copyTable p_t).Idxs).length) c26]) un29 ty26 (by decide) rfl (oc rfl oz) (by kernel_rfl) ?_)
 intro b34 w35 hs36 hz37 hB38 hE39
 have hO40 : OwnD w35 w17.heap.size (b34 + 1) 26 3 RO_Table (some ⟨b34, 0, none⟩) 1 1 ([(i_copyTable p_t)] : List DTable) := OwnD.of_box (b := b34) (xs := ([(i_copyTable p_t)] : List DTable)) (cells := [[.string (bs ((i_copyTable p_t).Name)), .slice A25 (((i_copyTable p_t).Cols).length) c25, .slice A26 (((i_copyTable p_t).Idxs).length) c26]]) (by rw [List.flatten_singleton]; exact hB38) oM (Nat.lt_succ_self _) (.cons (l := w17.heap.size) (h := b34) (Nat.le_refl _) oM rfl (fun k hk => by cases hk; exact .inr (Nat.le_refl _)) (mkO_Table (l := w17.heap.size) (h := b34) (OwnL.ex gS h25 hE39) (OwnL.ex gI h26 hE39) oM oM oM) (.nil (Nat.le_succ _))) (nb rfl)
 refine sA rfl (dn (CW.seq (CW.block (CW.loop (fun m97 L98 w99 => ∃ (x92 : Int) (x93 : List DTable) (A94 : Option Addr) (c95 : Nat) (u96 : Nat), ((p_stage - x92).toNat + (x92 - p_stage).toNat) < m97 ∧ w35.heap.size ≤ w99.heap.size ∧ lkp L98 1 = some (.string (bs (pn))) ∧ lkp L98 2 = some (.int .i64 (p_stage)) ∧ lkp L98 3 = some (.pointer (some ⟨b9, 0, none⟩)) ∧ lkp L98 7 = some (.int .i64 (x92)) ∧ lkp L98 8 = some (.slice A94 x93.length c95) ∧ Box w99 b9 26 [.string (bs (p_t.Name)), .slice A1 p_t.Cols.length c1, .slice A2 p_t.Idxs.length c2] ∧ RdS w99 (Iv 0 w.heap.size) (RF e_Str) 1 A1 p_t.Cols.length c1 p_t.Cols ∧ RdS w99 (Iv 0 w.heap.size) (RF e_Idx) 3 A2 p_t.Idxs.length c2 p_t.Idxs ∧ OwnD w99 w17.heap.size u96 26 3 RO_Table A94 x93.length c95 x93 ∧ Ex w w99 ∧ (w17.heap.size ≤ u96 ∧ u96 ≤ w99.heap.size) ∧ x93.length + 1 * ((p_stage - x92).toNat + (x92 - p_stage).toNat) ≤ 1 + 1 * ((p_stage - (i_Table_idx p_t pn).Stage).toNat + ((i_Table_idx p_t pn).Stage - p_stage).toNat) ∧ (∀ y ∈ x93, ok_Table y) ∧ 0 ≤ x92 ∧ x92 ≤ 3 ∧ loopW (B_i_Table_wayTo_0 p_t pn p_stage) m97 (x92, x93) = loopW (B_i_Table_wayTo_0 p_t pn p_stage) (((p_stage - (i_Table_idx p_t pn).Stage).toNat + ((i_Table_idx p_t pn).Stage - p_stage).toNat) + 1) ((i_Table_idx p_t pn).Stage, ([(i_copyTable p_t)] : List DTable))) (((p_stage - (i_Table_idx p_t pn).Stage).toNat + ((i_Table_idx p_t pn).Stage - p_stage).toNat) + 1) ?_ ?_))))
 ·exact ⟨(i_Table_idx p_t pn).Stage, ([(i_copyTable p_t)] : List DTable), (some ⟨b34, 0, none⟩), 1, (b34 + 1), Nat.lt_succ_self _, Nat.le_refl _, rfl, rfl, rfl, rfl, rfl, (Box.ex (Box.ex q21 hE29) hE39), (RdS.ex gS (RdS.ex gS q22 hE29) hE39), (RdS.ex gI (RdS.ex gI q23 hE29) hE39), hO40, (Ex.trans (Ex.trans (Ex.trans (Ex.trans (Ex.refl w) hE14) hE20) hE29) hE39), oM, (by first | (simp; done) | (first | omega | (simp only [lN, toS_length]; omega))), ((okL.mk (nb rfl) (okE.cons ho27 okE.nil))).2, Bo, Bo, rfl⟩
 ·rintro m110 L111 w112 ⟨x92, x93, A94, c95, u96, hk113, hsz115, hl116, hl117, hl118, hl119, hl120, hf121, hf122, hf123, hf124, hf125, hu126, hln127, hok128, hv129, hv130, hI114⟩
  refine CW.sub (Sub.cons hl116 (Sub.cons hl117 (Sub.cons hl118 (Sub.cons hl119 (Sub.cons hl120 (Sub.nil _)))))) ?_
  have hf121z := Box.lt hf121
  have hf125z := Ex.size hf125
  refine CW.seq (cR (sM rfl (sM rfl (sd rfl (yl_neq rfl rfl rfl (dn (bcase (decide (x92 = p_stage)) (fun hb131 => ?_) (fun hb131 => ?_))))))))
  ·have hb131p := dec_t hb131
   refine CW.cond_f rfl (not_t hb131) (CW.exit (tx (tx ?_)))
   have hB133 : B_i_Table_wayTo_0 p_t pn p_stage (x92, x93) = .brk (x92, x93) := by simp only [B_i_Table_wayTo_0, hb131, cL]
   have hL132 : loopW (B_i_Table_wayTo_0 p_t pn p_stage) (((p_stage - (i_Table_idx p_t pn).Stage).toNat + ((i_Table_idx p_t pn).Stage - p_stage).toNat) + 1) ((i_Table_idx p_t pn).Stage, ([(i_copyTable p_t)] : List DTable)) = .done (x92, x93) := hI114.symm.trans (loopW.brk hk113 hB133)
   refine bx (tn (cR (sM rfl (sA rfl (dn (CW.ret ?_))))))
   refine rr rfl (.cons rfl .nil) ?_
   have hM134 : (i_Table_wayTo p_t pn p_stage) = (x93) := by simp only [i_Table_wayTo, hb131, hL132, cL]
   rw [hM134]
   exact ⟨A94, c95, w17.heap.size, u96, rfl, hf124, (okL.mk (xs := x93) Bl hok128), oM, hf125⟩
  ·have hb131p := dec_f hb131
   refine CW.cond_t rfl (not_f hb131) (CW.skip (tn (CW.block (CW.seq (cR (sM rfl (sM rfl ?_)))))))
   refine sd rfl (yl_lss rfl rfl rfl (dn (bcase (decide (x92 < p_stage)) (fun hb135 => ?_) (fun hb135 => ?_))))
   ·have hb135p := dec_t hb135
    refine CW.cond_t rfl hb135 (CW.region (sM rfl (sd rfl (yl_add rfl rfl rfl (sA rfl (dn (CW.region (sM rfl ?_))))))))
    refine sd rfl (yl_loadN ty26 rfl rfl (hf121.cells (n := 3) rfl) rfl (sM rfl (sM rfl (sd rfl (yC en31 rfl (oc rfl (oc rfl (oc rfl oz))) (Cal.mono (c_i_Table_withStage p_t pn (IntKind.wrap .i64 (x92 + 1)) (RdS.up hf122 gS) (RdS.up hf123 gI) o3 o4 Bo) ?_))))))
    rintro v140 w136 ⟨A137, c137, lo137, hi137, A138, c138, lo138, hi138, rfl, h137, h138, ho139, hrn142, hrn143, hrn144, hE141⟩
    have hE141z := Ex.size hE141
    refine sd rfl (yl_buildSlice (cs := [.string (bs ((i_Table_withStage p_t pn (IntKind.wrap .i64 (x92 + 1))).Name)), .slice A137 (((i_Table_withStage p_t pn (IntKind.wrap .i64 (x92 + 1))).Cols).length) c137, .slice A138 (((i_Table_withStage p_t pn (IntKind.wrap .i64 (x92 + 1))).Idxs).length) c138]) un29 ty26 (by decide) rfl (oc rfl oz) (by kernel_rfl) ?_)
    intro b145 w146 hs147 hz148 hB149 hE150
    have hO151 : OwnD w146 w112.heap.size (b145 + 1) 26 3 RO_Table (some ⟨b145, 0, none⟩) 1 1 ([(i_Table_withStage p_t pn (IntKind.wrap .i64 (x92 + 1)))] : List DTable) := OwnD.of_box (b := b145) (xs := ([(i_Table_withStage p_t pn (IntKind.wrap .i64 (x92 + 1)))] : List DTable)) (cells := [[.string (bs ((i_Table_withStage p_t pn (IntKind.wrap .i64 (x92 + 1))).Name)), .slice A137 (((i_Table_withStage p_t pn (IntKind.wrap .i64 (x92 + 1))).Cols).length) c137, .slice A138 (((i_Table_withStage p_t pn (IntKind.wrap .i64 (x92 + 1))).Idxs).length) c138]]) (by rw [List.flatten_singleton]; exact hB149) oM (Nat.lt_succ_self _) (.cons (l := w112.heap.size) (h := b145) (Nat.le_refl _) oM rfl (fun k hk => by cases hk; exact .inr (Nat.le_refl _)) (mkO_Table (l := w112.heap.size) (h := b145) (OwnL.ex gS h137 hE150) (OwnL.ex gI h138 hE150) oM oM oM) (.nil (Nat.le_succ _))) (nb rfl)
    refine sd rfl (yl_appendD (xs := x93) (ys := ([(i_Table_withStage p_t pn (IntKind.wrap .i64 (x92 + 1)))] : List DTable)) goodO_Table un29 ty26 rfl (nb rfl) rfl rfl rfl (OwnD.ex goodO_Table (OwnD.ex goodO_Table hf124 hE141) hE150) hO151 Bl Bl oM oM oM oM ?_)
    intro A154 c155 w156 row157 hO158 hG159 hrg160
    have hG159z := hG159.size
    refine sA rfl (SeqR.done (bn (tn ?_)))
    have hB161 : B_i_Table_wayTo_0 p_t pn p_stage (x92, x93) = .cont (IntKind.wrap .i64 (x92 + 1), (x93 ++ ([(i_Table_withStage p_t pn (IntKind.wrap .i64 (x92 + 1)))] : List DTable))) := by simp only [B_i_Table_wayTo_0, hb131, hb135, cL]
    have hmu174 : ((p_stage - IntKind.wrap .i64 (x92 + 1)).toNat + (IntKind.wrap .i64 (x92 + 1) - p_stage).toNat) < ((p_stage - x92).toNat + (x92 - p_stage).toNat) := by first | omega | assumption | (simp only [wI] at *; omega)
    exact ⟨m110 - 1, oM, IntKind.wrap .i64 (x92 + 1), (x93 ++ ([(i_Table_withStage p_t pn (IntKind.wrap .i64 (x92 + 1)))] : List DTable)), A154, c155, w156.heap.size, oM, oM, rfl, rfl, rfl, rfl, rfl, (Box.grown (Box.ex (Box.ex hf121 hE141) hE150) hG159 (fun k hk => by have := hrg160 k hk; omega)), (RdS.grown gS (RdS.ex gS (RdS.ex gS hf122 hE141) hE150) hG159 (fun k hk => by have := hrg160 k hk; simp only [Iv]; omega)), (RdS.grown gI (RdS.ex gI (RdS.ex gI hf123 hE141) hE150) hG159 (fun k hk => by have := hrg160 k hk; simp only [Iv]; omega)), hO158, (Below.grown (Ex.trans (Ex.trans hf125 hE141) hE150) hG159 oM (fun k hk => by have := hrg160 k hk; omega)), oM, Bl, (okE.append hok128 ((okL.mk (nb rfl) (okE.cons ho139 okE.nil))).2), Bo, Bo, (loopW.cont hk113 hB161).symm.trans hI114⟩
   ·have hb135p := dec_f hb135
    refine CW.cond_f rfl hb135 (CW.region (sM rfl (sd rfl (yl_sub rfl rfl rfl (sA rfl (dn (CW.region (sM rfl ?_))))))))
    refine sd rfl (yl_loadN ty26 rfl rfl (hf121.cells (n := 3) rfl) rfl (sM rfl (sM rfl (sd rfl (yC en31 rfl (oc rfl (oc rfl (oc rfl oz))) (Cal.mono (c_i_Table_withStage p_t pn (IntKind.wrap .i64 (x92 - 1)) (RdS.up hf122 gS) (RdS.up hf123 gI) o3 o4 Bo) ?_))))))
    rintro v179 w175 ⟨A176, c176, lo176, hi176, A177, c177, lo177, hi177, rfl, h176, h177, ho178, hrn181, hrn182, hrn183, hE180⟩
    have hE180z := Ex.size hE180
    refine sd rfl (yl_buildSlice (cs := [.string (bs ((i_Table_withStage p_t pn (IntKind.wrap .i64 (x92 - 1))).Name)), .slice A176 (((i_Table_withStage p_t pn (IntKind.wrap .i64 (x92 - 1))).Cols).length) c176, .slice A177 (((i_Table_withStage p_t pn (IntKind.wrap .i64 (x92 - 1))).Idxs).length) c177]) un29 ty26 (by decide) rfl (oc rfl oz) (by kernel_rfl) ?_)
    intro b184 w185 hs186 hz187 hB188 hE189
    have hO190 : OwnD w185 w112.heap.size (b184 + 1) 26 3 RO_Table (some ⟨b184, 0, none⟩) 1 1 ([(i_Table_withStage p_t pn (IntKind.wrap .i64 (x92 - 1)))] : List DTable) := OwnD.of_box (b := b184) (xs := ([(i_Table_withStage p_t pn (IntKind.wrap .i64 (x92 - 1)))] : List DTable)) (cells := [[.string (bs ((i_Table_withStage p_t pn (IntKind.wrap .i64 (x92 - 1))).Name)), .slice A176 (((i_Table_withStage p_t pn (IntKind.wrap .i64 (x92 - 1))).Cols).length) c176, .slice A177 (((i_Table_withStage p_t pn (IntKind.wrap .i64 (x92 - 1))).Idxs).length) c177]]) (by rw [List.flatten_singleton]; exact hB188) oM (Nat.lt_succ_self _) (.cons (l := w112.heap.size) (h := b184) (Nat.le_refl _) oM rfl (fun k hk => by cases hk; exact .inr (Nat.le_refl _)) (mkO_Table (l := w112.heap.size) (h := b184) (OwnL.ex gS h176 hE189) (OwnL.ex gI h177 hE189) oM oM oM) (.nil (Nat.le_succ _))) (nb rfl)
    refine sd rfl (yl_appendD (xs := x93) (ys := ([(i_Table_withStage p_t pn (IntKind.wrap .i64 (x92 - 1)))] : List DTable)) goodO_Table un29 ty26 rfl (nb rfl) rfl rfl rfl (OwnD.ex goodO_Table (OwnD.ex goodO_Table hf124 hE180) hE189) hO190 Bl Bl oM oM oM oM ?_)
    intro A193 c194 w195 row196 hO197 hG198 hrg199
    have hG198z := hG198.size
    refine sA rfl (SeqR.done (bn (tn ?_)))
    have hB200 : B_i_Table_wayTo_0 p_t pn p_stage (x92, x93) = .cont (IntKind.wrap .i64 (x92 - 1), (x93 ++ ([(i_Table_withStage p_t pn (IntKind.wrap .i64 (x92 - 1)))] : List DTable))) := by simp only [B_i_Table_wayTo_0, hb131, hb135, cL]
    have hmu213 : ((p_stage - IntKind.wrap .i64 (x92 - 1)).toNat + (IntKind.wrap .i64 (x92 - 1) - p_stage).toNat) < ((p_stage - x92).toNat + (x92 - p_stage).toNat) := by first | omega | assumption | (simp only [wI] at *; omega)
    exact ⟨m110 - 1, oM, IntKind.wrap .i64 (x92 - 1), (x93 ++ ([(i_Table_withStage p_t pn (IntKind.wrap .i64 (x92 - 1)))] : List DTable)), A193, c194, w195.heap.size, oM, oM, rfl, rfl, rfl, rfl, rfl, (Box.grown (Box.ex (Box.ex hf121 hE180) hE189) hG198 (fun k hk => by have := hrg199 k hk; omega)), (RdS.grown gS (RdS.ex gS (RdS.ex gS hf122 hE180) hE189) hG198 (fun k hk => by have := hrg199 k hk; simp only [Iv]; omega)), (RdS.grown gI (RdS.ex gI (RdS.ex gI hf123 hE180) hE189) hG198 (fun k hk => by have := hrg199 k hk; simp only [Iv]; omega)), hO197, (Below.grown (Ex.trans (Ex.trans hf125 hE180) hE189) hG198 oM (fun k hk => by have := hrg199 k hk; omega)), oM, Bl, (okE.append hok128 ((okL.mk (nb rfl) (okE.cons ho178 okE.nil))).2), Bo, Bo, (loopW.cont hk113 hB200).symm.trans hI114⟩
theorem c_i_WayTo {A1 : Option Addr} {c1 : Nat} {A2 : Option Addr} {c2 : Nat} {w : World} (p_t : DTable) (pn : Str) (p_stage : Int) (h1 : RdS w (Iv 0 w.heap.size) (RF e_Str) 1 A1 p_t.Cols.length c1 p_t.Cols) (h2 : RdS w (Iv 0 w.heap.size) (RF e_Idx) 3 A2 p_t.Idxs.length c2 p_t.Idxs) (o3 : ok_Table p_t) (o4 : okS pn) : Cal Tryz.prog 5 #[.agg #[.string (bs (p_t.Name)), .slice A1 p_t.Cols.length c1, .slice A2 p_t.Idxs.length c2], .string (bs (pn)), .int .i64 (p_stage)] w fun v w' => ∃ A_1 c_1 lo_1 hi_1, v = .tuple #[.slice A_1 (((i_WayTo p_t pn p_stage).1).length) c_1, .bool ((i_WayTo p_t pn p_stage).2)] ∧ OwnD w' lo_1 hi_1 26 3 RO_Table A_1 (((i_WayTo p_t pn p_stage).1).length) c_1 ((i_WayTo p_t pn p_stage).1) ∧ (okL ok_Table) ((i_WayTo p_t pn p_stage).1) ∧ (w.heap.size ≤ lo_1 ∧ lo_1 ≤ hi_1 ∧ hi_1 ≤ w'.heap.size) ∧ Ex w w' := by
 have hol5 : p_t.Name.length ≤ 1073741824 := o3.1
 have hol6 := o3.2.1.1
 have hol7 := o3.2.2.1
 have hol8 : pn.length ≤ 1073741824 := o4
 refine Cal.of func5 rfl ntmps5 rfl (cR (sd rfl (yl_box rfl rfl rfl ?_)))
 intro b9 w10 hs11 hz12 hB13 hE14
 refine sA rfl (sA rfl (dn (CW.seq (cR (sd rfl (yl_loadN ty26 rfl rfl (hB13.cells (n := 3) rfl) rfl (sM rfl ?_)))))))
 have q15 := RdS.ex gS h1 hE14
 have q16 := RdS.ex gI h2 hE14
 refine sd rfl (yC en26 rfl (oc rfl (oc rfl oz)) (Cal.mono (c_i_hasIdx p_t pn (RdS.up q15 gS) (RdS.up q16 gI) o3 o4) ?_))
 rintro v18 w17 ⟨rfl, hE19⟩
 have hE19z := Ex.size hE19
 refine sd rfl (yl_not rfl rfl (sM rfl (bcase (i_hasIdx p_t pn) (fun hb20 => ?_) (fun hb20 => ?_))))
 ·obtain ⟨hb20p0, hb20p1, hb20p2⟩ := f_i_hasIdx hb20
  refine sy rfl rfl (not_t hb20) (yM rfl rfl (sy rfl rfl (not_t hb20) (yC en27 rfl (oc rfl oz) (Cal.mono (c_i_isStage p_stage) ?_))))
  rintro v22 w21 ⟨rfl, hE23⟩
  have hE23z := Ex.size hE23
  refine sy rfl rfl (not_t hb20) (yl_not rfl rfl (sd rfl (yl_pick_f rfl rfl (not_t hb20) rfl (dn (bcase (i_isStage p_stage) (fun hb24 => ?_) (fun hb24 => ?_))))))
  ·have hb24p := f_i_isStage hb24
   refine CW.cond_f rfl (not_t hb24) (CW.skip (tn (cR (sd rfl (yl_loadN ty26 rfl rfl ((Box.ex (Box.ex hB13 hE19) hE23).cells (n := 3) rfl) rfl (sM rfl (sM rfl (sd rfl (yC en28 rfl (oc rfl (oc rfl (oc rfl oz))) (Cal.mono (c_i_Table_wayTo p_t pn p_stage (RdS.up (RdS.ex gS (RdS.ex gS q15 hE19) hE23) gS) (RdS.up (RdS.ex gI (RdS.ex gI q16 hE19) hE23) gI) o3 o4 Bo Bo Bo) ?_))))))))))
   rintro v34 w31 ⟨A32, c32, lo32, hi32, rfl, h32, ho33, hrn36, hE35⟩
   have hE35z := Ex.size hE35
   refine sA rfl (sA rfl (dn (CW.ret (rr rfl (.cons rfl (.cons rfl .nil)) ?_))))
   have hM37 : (i_WayTo p_t pn p_stage) = (((i_Table_wayTo p_t pn p_stage), true)) := by simp only [i_WayTo, hb20, hb24, cL]
   rw [hM37]
   exact ⟨A32, c32, lo32, hi32, rfl, h32, ho33, oM, (Ex.trans (Ex.trans (Ex.trans (Ex.trans (Ex.refl w) hE14) hE19) hE23) hE35)⟩
  ·refine CW.cond_t rfl (not_f hb24) (cR (sA rfl (sA rfl (dn (CW.ret (tr ?_))))))
   refine rr rfl (.cons rfl (.cons rfl .nil)) ?_
   have hM42 : (i_WayTo p_t pn p_stage) = ((([] : List DTable), false)) := by simp only [i_WayTo, hb20, hb24, cL]
   rw [hM42]
   exact ⟨none, 0, w21.heap.size, w21.heap.size, rfl, (OwnD.nil _ _ _ _ _ _), (okL.nil _), oM, (Ex.trans (Ex.trans (Ex.trans (Ex.refl w) hE14) hE19) hE23)⟩
 ·refine sz rfl rfl (not_f hb20) (sz rfl rfl (not_f hb20) (sz rfl rfl (not_f hb20) (sd rfl (yl_pick_t rfl rfl (not_f hb20) rfl (dn (CW.cond_t rfl rfl (cR ?_)))))))
  refine sA rfl (sA rfl (dn (CW.ret (tr (rr rfl (.cons rfl (.cons rfl .nil)) ?_)))))
  have hM46 : (i_WayTo p_t pn p_stage) = ((([] : List DTable), false)) := by simp only [i_WayTo, hb20, cL]
  rw [hM46]
  exact ⟨none, 0, w17.heap.size, w17.heap.size, rfl, (OwnD.nil _ _ _ _ _ _), (okL.nil _), oM, (Ex.trans (Ex.trans (Ex.refl w) hE14) hE19)⟩
theorem c_s_l24Letters {w : World} (p_s : Str) (p_most : Int) (o1 : okS p_s) : Cal Tryz.prog 39 #[.string (bs (p_s)), .int .i64 (p_most)] w fun v w' => v = .bool ((s_l24Letters p_s p_most)) ∧ Ex w w' := by
 have hol2 : p_s.length ≤ 1073741824 := o1
 refine Cal.of func39 rfl ntmps39 rfl (cR (sA rfl (dn (CW.seq (cR ?_)))))
 refine sA rfl (dn (CW.block (CW.loop (fun m4 L5 w6 => ∃ (k3 : Nat), m4 = p_s.length - k3 ∧ k3 ≤ p_s.length ∧ w.heap.size ≤ w6.heap.size ∧ lkp L5 0 = some (.string (bs (p_s))) ∧ lkp L5 1 = some (.int .i64 (p_most)) ∧ lkp L5 5 = some (.int .i64 ((k3 : Int))) ∧ Ex w w6 ∧ loopM (B_s_l24Letters_0 p_s p_most) (p_s.length - k3) k3 () = loopM (B_s_l24Letters_0 p_s p_most) (p_s.length - 0) 0 ()) (p_s.length - 0) ?_ ?_)))
 ·exact ⟨0, rfl, oM, Nat.le_refl _, rfl, rfl, rfl, (Ex.refl w), rfl⟩
 ·rintro m7 L8 w9 ⟨k3, rfl, hk10, hsz12, hl13, hl14, hl15, hf16, hI11⟩
  refine CW.sub (Sub.cons hl13 (Sub.cons hl14 (Sub.cons hl15 (Sub.nil _)))) ?_
  have hf16z := Ex.size hf16
  have hbg17 : p_s.length ≤ 1073741824 := o1
  rcases Nat.lt_or_ge k3 p_s.length with hlt18 | hlt18
  ·refine CW.seq (cR (sM rfl (sM rfl (sd rfl (yl_slen un9 (a := p_s) rfl rfl (sd rfl (yl_lss rfl rfl rfl (dn ?_))))))))
   refine CW.cond_t rfl (lt_t hlt18) (CW.skip (tn (CW.seq (CW.block (cR (sM rfl (sM rfl ?_)))))))
   refine sd rfl (yl_sindexN un9 (a := p_s) rfl rfl rfl Bo (sd rfl (yl_lss rfl rfl rfl (sM rfl (bcase (decide (((p_s.getD k3 0).toNat : Int) < 97)) (fun hb19 => ?_) (fun hb19 => ?_))))))
   ·have hb19p := dec_t hb19
    refine sz rfl rfl hb19 (sz rfl rfl hb19 (sz rfl rfl hb19 (sz rfl rfl hb19 (sd rfl (yl_pick_t rfl rfl hb19 rfl (dn (CW.cond_t rfl rfl (CW.seq ?_))))))))
    refine CW.region (sA rfl (dn (CW.ret (br (tr (tr ?_))))))
    have hB21 : B_s_l24Letters_0 p_s p_most k3 () = .ret false := by simp only [B_s_l24Letters_0, hb19, cL]
    have hL20 : loopM (B_s_l24Letters_0 p_s p_most) (p_s.length - 0) 0 () = .ret false := hI11.symm.trans (loopM.ret hlt18 hB21)
    refine br (tr (rr rfl (.cons rfl .nil) ?_))
    have hM22 : (s_l24Letters p_s p_most) = (false) := by simp only [s_l24Letters, hb19, hL20, cL]
    rw [hM22]
    exact ⟨rfl, hf16⟩
   ·have hb19p := dec_f hb19
    refine sy rfl rfl hb19 (yM rfl rfl (sy rfl rfl hb19 (yM rfl rfl (sy rfl rfl hb19 (yl_sindexN un9 (a := p_s) rfl rfl rfl Bo (sy rfl rfl hb19 (yl_gtr rfl rfl rfl (sd rfl (yl_pick_f rfl rfl hb19 rfl (dn (bcase (decide (122 < ((p_s.getD k3 0).toNat : Int))) (fun hb23 => ?_) (fun hb23 => ?_))))))))))))
    ·have hb23p := dec_t hb23
     refine CW.cond_t rfl hb23 (cR (sA rfl (dn (CW.ret (br (tr ?_))))))
     refine tr ?_
     have hB25 : B_s_l24Letters_0 p_s p_most k3 () = .ret false := by simp only [B_s_l24Letters_0, hb19, hb23, cL]
     have hL24 : loopM (B_s_l24Letters_0 p_s p_most) (p_s.length - 0) 0 () = .ret false := hI11.symm.trans (loopM.ret hlt18 hB25)
     refine br (tr (rr rfl (.cons rfl .nil) ?_))
     have hM26 : (s_l24Letters p_s p_most) = (false) := by simp only [s_l24Letters, hb19, hb23, hL24, cL]
     rw [hM26]
     exact ⟨rfl, hf16⟩
    ·have hb23p := dec_f hb23
     refine CW.cond_f rfl hb23 (CW.skip (bn (tn (CW.region (sM rfl (sd rfl (yl_inc rfl rfl rfl oM (sA rfl (SeqR.done ?_)))))))))
     refine tn ?_
     have hB27 : B_s_l24Letters_0 p_s p_most k3 () = .cont () := by simp only [B_s_l24Letters_0, hb19, hb23, cL]
     exact ⟨p_s.length - (k3 + 1), oM, k3 + 1, rfl, hlt18, oM, rfl, rfl, rfl, hf16, (loopM.cont hlt18 hB27).symm.trans hI11⟩
  ·refine CW.seq (cR (sM rfl (sM rfl (sd rfl (yl_slen un9 (a := p_s) rfl rfl (sd rfl (yl_lss rfl rfl rfl (dn ?_))))))))
   refine CW.cond_f rfl (lt_f hlt18) (CW.exit (tx (tx ?_)))
   have hL28 : loopM (B_s_l24Letters_0 p_s p_most) (p_s.length - 0) 0 () = .done () := hI11.symm.trans (loopM.stop hlt18)
   refine bx (tn (cR (sM rfl (sd rfl (yl_slen un9 (a := p_s) rfl rfl (sd rfl (yl_geq rfl rfl rfl (sM rfl (bcase (decide (1 ≤ (p_s.length : Int))) (fun hb29 => ?_) (fun hb29 => ?_))))))))))
   ·have hb29p := dec_t hb29
    refine sy rfl rfl hb29 (yM rfl rfl (sy rfl rfl hb29 (yl_slen un9 (a := p_s) rfl rfl (sy rfl rfl hb29 (yM rfl rfl (sy rfl rfl hb29 (yl_leq rfl rfl rfl (sd rfl (yl_pick_t rfl rfl hb29 rfl (sA rfl (dn (CW.ret ?_))))))))))))
    refine rr rfl (.cons rfl .nil) ?_
    have hM30 : (s_l24Letters p_s p_most) = (decide ((p_s.length : Int) ≤ p_most)) := by simp only [s_l24Letters, hb29, hL28, cL]
    rw [hM30]
    exact ⟨rfl, hf16⟩
   ·have hb29p := dec_f hb29
    refine sz rfl rfl hb29 (sz rfl rfl hb29 (sz rfl rfl hb29 (sz rfl rfl hb29 (sd rfl (yl_pick_f rfl rfl hb29 rfl (sA rfl (dn (CW.ret ?_))))))))
    refine rr rfl (.cons rfl .nil) ?_
    have hM31 : (s_l24Letters p_s p_most) = (false) := by simp only [s_l24Letters, hb29, hL28, cL]
    rw [hM31]
    exact ⟨rfl, hf16⟩
theorem c_s_l1In {w : World} (p_n : Int) (p_lo : Int) (p_hi : Int) : Cal Tryz.prog 41 #[.int .i64 (p_n), .int .i64 (p_lo), .int .i64 (p_hi)] w fun v w' => v = .bool ((s_l1In p_n p_lo p_hi)) ∧ Ex w w' := by
 refine Cal.of func41 rfl ntmps41 rfl (cR (sA rfl (dn (cR (sM rfl ?_)))))
 refine sM rfl (sd rfl (yl_geq rfl rfl rfl (sM rfl (bcase (decide (p_lo ≤ p_n)) (fun hb1 => ?_) (fun hb1 => ?_)))))
 ·have hb1p := dec_t hb1
  refine sy rfl rfl hb1 (yM rfl rfl (sy rfl rfl hb1 (yM rfl rfl (sy rfl rfl hb1 (yl_leq rfl rfl rfl (sd rfl (yl_pick_t rfl rfl hb1 rfl (sA rfl (dn (CW.ret (rr rfl (.cons rfl .nil) ?_)))))))))))
  have hM2 : (s_l1In p_n p_lo p_hi) = (decide (p_n ≤ p_hi)) := by simp only [s_l1In, hb1, cL]
  rw [hM2]
  exact ⟨rfl, (Ex.refl w)⟩
 ·have hb1p := dec_f hb1
  refine sz rfl rfl hb1 (sz rfl rfl hb1 (sz rfl rfl hb1 (sd rfl (yl_pick_f rfl rfl hb1 rfl (sA rfl (dn (CW.ret (rr rfl (.cons rfl .nil) ?_))))))))
  have hM3 : (s_l1In p_n p_lo p_hi) = (false) := by simp only [s_l1In, hb1, cL]
  rw [hM3]
  exact ⟨rfl, (Ex.refl w)⟩
theorem c_s_l24At {A1 : Option Addr} {c1 : Nat} {w : World} (p_l : List Str) (p_s : Str) (h1 : RdS w (Iv 0 w.heap.size) (RF e_Str) 1 A1 p_l.length c1 p_l) (o2 : (okL okS) p_l) (o3 : okS p_s) : Cal Tryz.prog 60 #[.slice A1 p_l.length c1, .string (bs (p_s))] w fun v w' => v = .int .i64 ((s_l24At p_l p_s)) ∧ Ex w w' := by
 have hol4 := o2.1
 have hol5 : p_s.length ≤ 1073741824 := o3
 refine Cal.of func60 rfl ntmps60 rfl (cR (sA rfl (dn (CW.seq (cR ?_)))))
 refine sM rfl (sd rfl (yL un23 rfl rfl (sM rfl (dn (CW.block (CW.loop (fun m7 L8 w9 => ∃ (k6 : Nat), m7 = p_l.length - k6 ∧ k6 ≤ p_l.length ∧ w.heap.size ≤ w9.heap.size ∧ lkp L8 1 = some (.string (bs (p_s))) ∧ lkp L8 7 = some (.slice A1 p_l.length c1) ∧ lkp L8 8 = some (.int .i64 ((p_l.length : Int))) ∧ lkp L8 9 = some (.int .i64 ((k6 : Int))) ∧ RdS w9 (Iv 0 w.heap.size) (RF e_Str) 1 A1 p_l.length c1 p_l ∧ Ex w w9 ∧ loopM (B_s_l24At_0 p_l p_s) (p_l.length - k6) k6 () = loopM (B_s_l24At_0 p_l p_s) (p_l.length - 0) 0 ()) (p_l.length - 0) ?_ ?_))))))
 ·exact ⟨0, rfl, oM, Nat.le_refl _, rfl, rfl, rfl, rfl, h1, (Ex.refl w), rfl⟩
 ·rintro m10 L11 w12 ⟨k6, rfl, hk13, hsz15, hl16, hl17, hl18, hl19, hf20, hf21, hI14⟩
  refine CW.sub (Sub.cons hl16 (Sub.cons hl17 (Sub.cons hl18 (Sub.cons hl19 (Sub.nil _))))) ?_
  have hf21z := Ex.size hf21
  have hbg22 := RdS.big hf20
  rcases Nat.lt_or_ge k6 p_l.length with hlt23 | hlt23
  ·refine cR (sd rfl (yl_lss rfl rfl rfl (dn (CW.seq (CW.cond_t rfl (lt_t hlt23) (CW.skip (tn ?_)))))))
   refine CW.seq (CW.block (cR (sM rfl ?_)))
   obtain ⟨eb24, eo24, _, eA24, _, ebl24, _, eR24, eC24⟩ := RdS.aD hf20 d_Str (i := k6)
   obtain rfl := eR24
   have eC24 : Cells w12 eb24 (eo24 + k6 * 1) [.string (bs ((p_l.getD k6 d_Str)))] := eC24
   refine sd rfl (yl_ixN un23 ty9 rfl rfl rfl eA24 (sd rfl (yl_load1 ty9 rfl rfl (eC24 0 _ rfl) (sA rfl (sA rfl (dn (cR (sM rfl ?_))))))))
   refine sM rfl (sd rfl (yl_seql (a := (p_l.getD k6 d_Str)) (b := p_s) rfl rfl rfl (dn (bcase ((p_l.getD k6 d_Str) == p_s) (fun hb25 => ?_) (fun hb25 => ?_)))))
   ·refine CW.cond_t rfl hb25 (cR (sM rfl (sA rfl (dn (CW.ret (br ?_))))))
    refine tr (tr ?_)
    have hB27 : B_s_l24At_0 p_l p_s k6 () = .ret (k6 : Int) := by simp only [B_s_l24At_0, hb25, cL]
    have hL26 : loopM (B_s_l24At_0 p_l p_s) (p_l.length - 0) 0 () = .ret (k6 : Int) := hI14.symm.trans (loopM.ret hlt23 hB27)
    refine br (tr (rr rfl (.cons rfl .nil) ?_))
    have hM28 : (s_l24At p_l p_s) = ((k6 : Int)) := by simp only [s_l24At, hb25, hL26, cL]
    rw [hM28]
    exact ⟨rfl, hf21⟩
   ·refine CW.cond_f rfl hb25 (CW.skip (bn (tn (CW.region (sd rfl (yl_inc rfl rfl rfl oM (sM rfl (dn ?_))))))))
    have hB29 : B_s_l24At_0 p_l p_s k6 () = .cont () := by simp only [B_s_l24At_0, hb25, cL]
    exact ⟨p_l.length - (k6 + 1), oM, k6 + 1, rfl, hlt23, oM, rfl, rfl, rfl, rfl, hf20, hf21, (loopM.cont hlt23 hB29).symm.trans hI14⟩
  ·refine cR (sd rfl (yl_lss rfl rfl rfl (dn (CW.seq (CW.cond_f rfl (lt_f hlt23) (CW.exit (tx ?_)))))))
   refine tx ?_
   have hL30 : loopM (B_s_l24At_0 p_l p_s) (p_l.length - 0) 0 () = .done () := hI14.symm.trans (loopM.stop hlt23)
   refine bx (tn (cR (sA rfl (dn (CW.ret (rr rfl (.cons rfl .nil) ?_))))))
   have hM31 : (s_l24At p_l p_s) = (-1) := by simp only [s_l24At, hL30, cL]
   rw [hM31]
   exact ⟨rfl, hf21⟩
theorem c_s_l24Cols {A1 : Option Addr} {c1 : Nat} {w : World} (p_l : List Str) (h1 : RdS w (Iv 0 w.heap.size) (RF e_Str) 1 A1 p_l.length c1 p_l) (o2 : (okL okS) p_l) : Cal Tryz.prog 40 #[.slice A1 p_l.length c1] w fun v w' => v = .bool ((s_l24Cols p_l)) ∧ Ex w w' := by
 have hol3 := o2.1
 refine Cal.of func40 rfl ntmps40 rfl (cR (sA rfl (dn (CW.seq (cR ?_)))))
 refine sM rfl (sd rfl (yL un23 rfl rfl (sM rfl (dn (CW.block (CW.loop (fun m5 L6 w7 => ∃ (k4 : Nat), m5 = p_l.length - k4 ∧ k4 ≤ p_l.length ∧ w.heap.size ≤ w7.heap.size ∧ lkp L6 0 = some (.slice A1 p_l.length c1) ∧ lkp L6 5 = some (.slice A1 p_l.length c1) ∧ lkp L6 6 = some (.int .i64 ((p_l.length : Int))) ∧ lkp L6 7 = some (.int .i64 ((k4 : Int))) ∧ RdS w7 (Iv 0 w.heap.size) (RF e_Str) 1 A1 p_l.length c1 p_l ∧ Ex w w7 ∧ loopM (B_s_l24Cols_0 p_l) (p_l.length - k4) k4 () = loopM (B_s_l24Cols_0 p_l) (p_l.length - 0) 0 ()) (p_l.length - 0) ?_ ?_))))))
 ·exact ⟨0, rfl, oM, Nat.le_refl _, rfl, rfl, rfl, rfl, h1, (Ex.refl w), rfl⟩
 ·rintro m8 L9 w10 ⟨k4, rfl, hk11, hsz13, hl14, hl15, hl16, hl17, hf18, hf19, hI12⟩
  refine CW.sub (Sub.cons hl14 (Sub.cons hl15 (Sub.cons hl16 (Sub.cons hl17 (Sub.nil _))))) ?_
  have hf19z := Ex.size hf19
  have hbg20 := RdS.big hf18
  rcases Nat.lt_or_ge k4 p_l.length with hlt21 | hlt21
  ·refine cR (sd rfl (yl_lss rfl rfl rfl (dn (CW.seq (CW.cond_t rfl (lt_t hlt21) (CW.skip (tn ?_)))))))
   refine CW.seq (CW.block (cR (sM rfl ?_)))
   obtain ⟨eb22, eo22, _, eA22, _, ebl22, _, eR22, eC22⟩ := RdS.aD hf18 d_Str (i := k4)
   obtain rfl := eR22
   have eC22 : Cells w10 eb22 (eo22 + k4 * 1) [.string (bs ((p_l.getD k4 d_Str)))] := eC22
   refine sd rfl (yl_ixN un23 ty9 rfl rfl rfl eA22 (sd rfl (yl_load1 ty9 rfl rfl (eC22 0 _ rfl) (sA rfl (sA rfl (dn (cR (sM rfl ?_))))))))
   refine sd rfl (yC en39 rfl (oc rfl (oc rfl oz)) (Cal.mono (c_s_l24Letters (p_l.getD k4 d_Str) 3 (okL.getD o2 ok_d_Str _)) ?_))
   rintro v24 w23 ⟨rfl, hE25⟩
   have hE25z := Ex.size hE25
   refine sd rfl (yl_not rfl rfl (sM rfl (bcase (s_l24Letters (p_l.getD k4 d_Str) 3) (fun hb26 => ?_) (fun hb26 => ?_))))
   ·refine sy rfl rfl (not_t hb26) (yM rfl rfl (sy rfl rfl (not_t hb26) (yM rfl rfl ?_)))
    have q27 := RdS.ex gS hf18 hE25
    obtain ⟨A28, c29, he32, h31⟩ := RdS.sl (RdS.drop (RdS.take q27 (k := k4) oM) (k := 0) oM)
    have hrc33 := (q27).2.1
    refine sy rfl rfl (not_t hb26) (yl_sliceR (kl := .i64) (l := 0) (h := k4) un23 ty9 rfl rfl (.inl ⟨rfl, rfl⟩) (.inr ⟨_, rfl, rfl⟩) oM oM he32 (sy rfl rfl (not_t hb26) (yM rfl rfl (sy rfl rfl (not_t hb26) (yC en60 rfl (oc rfl (oc rfl oz)) (Cal.mono (c_s_l24At (p_l.take k4) (p_l.getD k4 d_Str) (RdS.up h31 gS) (okL.take o2 _) (okL.getD o2 ok_d_Str _)) ?_))))))
    rintro v35 w34 ⟨rfl, hE36⟩
    have hE36z := Ex.size hE36
    refine sy rfl rfl (not_t hb26) (yl_geq rfl rfl rfl (sd rfl (yl_pick_f rfl rfl (not_t hb26) rfl (dn (bcase (decide (0 ≤ (s_l24At (p_l.take k4) (p_l.getD k4 d_Str)))) (fun hb37 => ?_) (fun hb37 => ?_))))))
    ·have hb37p := dec_t hb37
     refine CW.cond_t rfl hb37 (cR (sA rfl (dn (CW.ret (br (tr ?_))))))
     refine tr ?_
     have hB39 : B_s_l24Cols_0 p_l k4 () = .ret false := by simp only [B_s_l24Cols_0, hb26, hb37, cL]
     have hL38 : loopM (B_s_l24Cols_0 p_l) (p_l.length - 0) 0 () = .ret false := hI12.symm.trans (loopM.ret hlt21 hB39)
     refine br (tr (rr rfl (.cons rfl .nil) ?_))
     have hM40 : (s_l24Cols p_l) = (false) := by simp only [s_l24Cols, hb26, hb37, hL38, cL]
     rw [hM40]
     exact ⟨rfl, (Ex.trans (Ex.trans hf19 hE25) hE36)⟩
    ·have hb37p := dec_f hb37
     refine CW.cond_f rfl hb37 (CW.skip (bn (tn (CW.region (sd rfl (yl_inc rfl rfl rfl oM (sM rfl (dn ?_))))))))
     have hB43 : B_s_l24Cols_0 p_l k4 () = .cont () := by simp only [B_s_l24Cols_0, hb26, hb37, cL]
     exact ⟨p_l.length - (k4 + 1), oM, k4 + 1, rfl, hlt21, oM, rfl, rfl, rfl, rfl, (RdS.ex gS q27 hE36), (Ex.trans (Ex.trans hf19 hE25) hE36), (loopM.cont hlt21 hB43).symm.trans hI12⟩
   ·refine sz rfl rfl (not_f hb26) (sz rfl rfl (not_f hb26) (sz rfl rfl (not_f hb26) (sz rfl rfl (not_f hb26) (sz rfl rfl (not_f hb26) (sz rfl rfl (not_f hb26) (sd rfl (yl_pick_t rfl rfl (not_f hb26) rfl (dn ?_))))))))
    refine CW.cond_t rfl rfl (cR (sA rfl (dn (CW.ret (br (tr ?_))))))
    refine tr ?_
    have hB48 : B_s_l24Cols_0 p_l k4 () = .ret false := by simp only [B_s_l24Cols_0, hb26, cL]
    have hL47 : loopM (B_s_l24Cols_0 p_l) (p_l.length - 0) 0 () = .ret false := hI12.symm.trans (loopM.ret hlt21 hB48)
    refine br (tr (rr rfl (.cons rfl .nil) ?_))
    have hM49 : (s_l24Cols p_l) = (false) := by simp only [s_l24Cols, hb26, hL47, cL]
    rw [hM49]
    exact ⟨rfl, (Ex.trans hf19 hE25)⟩
  ·refine cR (sd rfl (yl_lss rfl rfl rfl (dn (CW.seq (CW.cond_f rfl (lt_f hlt21) (CW.exit (tx ?_)))))))
   refine tx ?_
   have hL51 : loopM (B_s_l24Cols_0 p_l) (p_l.length - 0) 0 () = .done () := hI12.symm.trans (loopM.stop hlt21)
   refine bx (tn (cR (sM rfl (sd rfl (yL un23 rfl rfl (sd rfl (yC en41 rfl (oc rfl (oc rfl (oc rfl oz))) (Cal.mono (c_s_l1In (p_l.length : Int) 2 4) ?_))))))))
   rintro v53 w52 ⟨rfl, hE54⟩
   have hE54z := Ex.size hE54
   refine sA rfl (dn (CW.ret (rr rfl (.cons rfl .nil) ?_)))
   have hM55 : (s_l24Cols p_l) = ((s_l1In (p_l.length : Int) 2 4)) := by simp only [s_l24Cols, hL51, cL]
   rw [hM55]
   exact ⟨rfl, (Ex.trans hf19 hE54)⟩
theorem c_s_GoodTable {A1 : Option Addr} {c1 : Nat} {A2 : Option Addr} {c2 : Nat} {w : World} (p_0 : DTable) (h1 : RdS w (Iv 0 w.heap.size) (RF e_Str) 1 A1 p_0.Cols.length c1 p_0.Cols) (h2 : RdS w (Iv 0 w.heap.size) (RF e_Idx) 3 A2 p_0.Idxs.length c2 p_0.Idxs) (o3 : ok_Table p_0) : Cal Tryz.prog 14 #[.agg #[.string (bs (p_0.Name)), .slice A1 p_0.Cols.length c1, .slice A2 p_0.Idxs.length c2]] w fun v w' => v = .bool ((s_GoodTable p_0)) ∧ Ex w w' := by
 have hol4 : p_0.Name.length ≤ 1073741824 := o3.1
 have hol5 := o3.2.1.1
 have hol6 := o3.2.2.1
 refine Cal.of func14 rfl ntmps14 rfl (cR (sd rfl (yl_box rfl rfl rfl ?_)))
 intro b7 w8 hs9 hz10 hB11 hE12
 refine sA rfl (dn (CW.seq (cR (sd rfl (yl_fieldAddr fd26_0 rfl rfl (sd rfl (yl_load1 ty9 rfl rfl ((hB11.cell 0).trans rfl) (sd rfl (yC en39 rfl (oc rfl (oc rfl oz)) (Cal.mono (c_s_l24Letters p_0.Name 1 o3.1) ?_))))))))))
 rintro v14 w13 ⟨rfl, hE15⟩
 have hE15z := Ex.size hE15
 refine sd rfl (yl_not rfl rfl (sM rfl (bcase (s_l24Letters p_0.Name 1) (fun hb16 => ?_) (fun hb16 => ?_))))
 ·refine sy rfl rfl (not_t hb16) (yl_fieldAddr fd26_1 rfl rfl ?_)
  have q17 := Box.ex hB11 hE15
  refine sy rfl rfl (not_t hb16) (yl_load1 ty23 rfl rfl ((q17.cell 1).trans rfl) ?_)
  have q19 := RdS.ex gS (RdS.ex gS h1 hE12) hE15
  refine sy rfl rfl (not_t hb16) (yC en40 rfl (oc rfl oz) (Cal.mono (c_s_l24Cols p_0.Cols (RdS.up q19 gS) o3.2.1) ?_))
  rintro v21 w20 ⟨rfl, hE22⟩
  have hE22z := Ex.size hE22
  refine sy rfl rfl (not_t hb16) (yl_not rfl rfl (sd rfl (yl_pick_f rfl rfl (not_t hb16) rfl (sM rfl (bcase (s_l24Cols p_0.Cols) (fun hb23 => ?_) (fun hb23 => ?_))))))
  ·refine sy rfl rfl (not_t hb23) (yl_fieldAddr fd26_2 rfl rfl ?_)
   have q24 := Box.ex q17 hE22
   refine sy rfl rfl (not_t hb23) (yl_load1 ty24 rfl rfl ((q24.cell 2).trans rfl) (sy rfl rfl (not_t hb23) (yL un24 rfl rfl (sy rfl rfl (not_t hb23) (yl_gtr rfl rfl rfl (sd rfl (yl_pick_f rfl rfl (not_t hb23) rfl (dn (bcase (decide (3 < (p_0.Idxs.length : Int))) (fun hb25 => ?_) (fun hb25 => ?_))))))))))
   ·have hb25p := dec_t hb25
    refine CW.cond_t rfl hb25 (cR (sA rfl (dn (CW.ret (tr (rr rfl (.cons rfl .nil) ?_))))))
    have hM26 : (s_GoodTable p_0) = (false) := by simp only [s_GoodTable, hb16, hb23, hb25, cL]
    rw [hM26]
    exact ⟨rfl, (Ex.trans (Ex.trans (Ex.trans (Ex.refl w) hE12) hE15) hE22)⟩
   ·have hb25p := dec_f hb25
    refine CW.cond_f rfl hb25 (CW.skip (tn (CW.seq (cR (sd rfl (yl_fieldAddr fd26_2 rfl rfl (sd rfl (yl_load1 ty24 rfl rfl ((q24.cell 2).trans rfl) (sd rfl (yL un24 rfl rfl ?_))))))))))
    refine sM rfl (dn (CW.block (CW.loop (fun m68 L69 w70 => ∃ (k30 : Nat), m68 = p_0.Idxs.length - k30 ∧ k30 ≤ p_0.Idxs.length ∧ w20.heap.size ≤ w70.heap.size ∧ lkp L69 1 = some (.pointer (some ⟨b7, 0, none⟩)) ∧ lkp L69 22 = some (.slice A2 p_0.Idxs.length c2) ∧ lkp L69 23 = some (.int .i64 ((p_0.Idxs.length : Int))) ∧ lkp L69 24 = some (.int .i64 ((k30 : Int))) ∧ Box w70 b7 26 [.string (bs (p_0.Name)), .slice A1 p_0.Cols.length c1, .slice A2 p_0.Idxs.length c2] ∧ RdS w70 (Iv 0 w.heap.size) (RF e_Str) 1 A1 p_0.Cols.length c1 p_0.Cols ∧ RdS w70 (Iv 0 w.heap.size) (RF e_Idx) 3 A2 p_0.Idxs.length c2 p_0.Idxs ∧ Ex w w70 ∧ loopM (B_s_GoodTable_0 p_0) (p_0.Idxs.length - k30) k30 () = loopM (B_s_GoodTable_0 p_0) (p_0.Idxs.length - 0) 0 ()) (p_0.Idxs.length - 0) ?_ ?_)))
    ·exact ⟨0, rfl, oM, Nat.le_refl _, rfl, rfl, rfl, rfl, q24, (RdS.ex gS q19 hE22), (RdS.ex gI (RdS.ex gI (RdS.ex gI h2 hE12) hE15) hE22), (Ex.trans (Ex.trans (Ex.trans (Ex.refl w) hE12) hE15) hE22), rfl⟩
    ·rintro m78 L79 w80 ⟨k30, rfl, hk81, hsz83, hl84, hl85, hl86, hl87, hf88, hf89, hf90, hf91, hI82⟩
     refine CW.sub (Sub.cons hl84 (Sub.cons hl85 (Sub.cons hl86 (Sub.cons hl87 (Sub.nil _))))) ?_
     have hf88z := Box.lt hf88
     have hf91z := Ex.size hf91
     have hbg92 := RdS.big hf90
     rcases Nat.lt_or_ge k30 p_0.Idxs.length with hlt93 | hlt93
     ·refine cR (sd rfl (yl_lss rfl rfl rfl (dn (CW.seq (CW.cond_t rfl (lt_t hlt93) (CW.skip (tn ?_)))))))
      refine CW.seq (CW.block (cR (sM rfl ?_)))
      obtain ⟨eb94, eo94, _, eA94, _, ebl94, _, eR94, eC94⟩ := RdS.aD hf90 d_Idx (i := k30)
      obtain rfl := eR94
      have eC94 : Cells w80 eb94 (eo94 + k30 * 3) [.string (bs ((p_0.Idxs.getD k30 d_Idx).Name)), .int .i64 ((p_0.Idxs.getD k30 d_Idx).Col), .int .i64 ((p_0.Idxs.getD k30 d_Idx).Stage)] := eC94
      refine sd rfl (yl_ixN un24 ty35 rfl rfl rfl eA94 (sd rfl (yl_loadN ty35 rfl rfl eC94 rfl (sd rfl (yB ty35 (cs := [.string (bs (([] : Str))), .int .i64 (0), .int .i64 (0)]) rfl rfl ?_)))))
      intro b95 w96 hs97 hz98 hB99 hE100
      refine sA rfl (SeqR.u rfl rfl (yl_store (vs := [.string (bs ((p_0.Idxs.getD k30 d_Idx).Name)), .int .i64 ((p_0.Idxs.getD k30 d_Idx).Col), .int .i64 ((p_0.Idxs.getD k30 d_Idx).Stage)]) ty35 rfl rfl rfl rfl rfl rfl hB99 (nb rfl) ?_))
      intro w101 hB102 hO103
      have hB102 : Box w101 b95 35 [.string (bs ((p_0.Idxs.getD k30 d_Idx).Name)), .int .i64 ((p_0.Idxs.getD k30 d_Idx).Col), .int .i64 ((p_0.Idxs.getD k30 d_Idx).Stage)] := hB102
      have hO103z := hO103.size
      refine dn (CW.seq (bcase (s_l24Letters ((p_0.Idxs.getD k30 d_Idx).Name) 1) (fun hb105 => ?_) (fun hb105 => ?_)))
      ·refine bcase (s_l1In ((p_0.Idxs.getD k30 d_Idx).Col) 1 (IntKind.wrap .i64 ((p_0.Cols.length : Int) - 1))) (fun hb110 => ?_) (fun hb110 => ?_)
       ·have hb110p := f_l1In hb110
        refine bcase (s_l1In ((p_0.Idxs.getD k30 d_Idx).Stage) 0 3) (fun hb116 => ?_) (fun hb116 => ?_)
        ·have hb116p := f_l1In hb116
         refine bcase (decide (0 < (k30 : Int))) (fun hb122 => ?_) (fun hb122 => ?_)
         ·have hb122p := dec_t hb122
          have q125 := Box.only (Box.ex hf88 hE100) hO103 oM
          have q129 := RdS.only gI (RdS.ex gI hf90 hE100) hO103 (by simp only [Iv]; omega)
          obtain ⟨eb130, eo130, _, eA130, _, ebl130, _, eR130, eC130⟩ := RdS.atD q129 d_Idx (i := (IntKind.wrap .i64 ((k30 : Int) - 1)).toNat) Bo
          obtain rfl := eR130
          have eC130 : Cells w101 eb130 (eo130 + ((IntKind.wrap .i64 ((k30 : Int) - 1)).toNat) * 3) [.string (bs ((p_0.Idxs.getD ((IntKind.wrap .i64 ((k30 : Int) - 1)).toNat) d_Idx).Name)), .int .i64 ((p_0.Idxs.getD ((IntKind.wrap .i64 ((k30 : Int) - 1)).toNat) d_Idx).Col), .int .i64 ((p_0.Idxs.getD ((IntKind.wrap .i64 ((k30 : Int) - 1)).toNat) d_Idx).Stage)] := eC130
          refine drI 36 [.pointer (some ⟨b95, 0 + 0, none⟩), .string (bs ((p_0.Idxs.getD k30 d_Idx).Name)), .bool ((s_l24Letters ((p_0.Idxs.getD k30 d_Idx).Name) 1)), .bool (!(s_l24Letters ((p_0.Idxs.getD k30 d_Idx).Name) 1)), .bool (!(s_l24Letters ((p_0.Idxs.getD k30 d_Idx).Name) 1)), .pointer (some ⟨b95, 0 + 1, none⟩), .int .i64 ((p_0.Idxs.getD k30 d_Idx).Col), .pointer (some ⟨b7, 0 + 1, none⟩), .slice A1 p_0.Cols.length c1, .int .i64 ((p_0.Cols.length : Int)), .int .i64 (IntKind.wrap .i64 ((p_0.Cols.length : Int) - 1)), .bool ((s_l1In ((p_0.Idxs.getD k30 d_Idx).Col) 1 (IntKind.wrap .i64 ((p_0.Cols.length : Int) - 1)))), .bool (!(s_l1In ((p_0.Idxs.getD k30 d_Idx).Col) 1 (IntKind.wrap .i64 ((p_0.Cols.length : Int) - 1)))), .bool (!(s_l1In ((p_0.Idxs.getD k30 d_Idx).Col) 1 (IntKind.wrap .i64 ((p_0.Cols.length : Int) - 1)))), .bool (!(s_l1In ((p_0.Idxs.getD k30 d_Idx).Col) 1 (IntKind.wrap .i64 ((p_0.Cols.length : Int) - 1)))), .pointer (some ⟨b95, 0 + 2, none⟩), .int .i64 ((p_0.Idxs.getD k30 d_Idx).Stage), .bool ((s_l1In ((p_0.Idxs.getD k30 d_Idx).Stage) 0 3)), .bool (!(s_l1In ((p_0.Idxs.getD k30 d_Idx).Stage) 0 3)), .bool (!(s_l1In ((p_0.Idxs.getD k30 d_Idx).Stage) 0 3)), .bool (!(s_l1In ((p_0.Idxs.getD k30 d_Idx).Stage) 0 3)), .int .i64 ((k30 : Int)), .bool (decide (0 < (k30 : Int))), .bool (decide (0 < (k30 : Int))), .pointer (some ⟨b7, 0 + 2, none⟩), .slice A2 p_0.Idxs.length c2, .int .i64 ((k30 : Int)), .int .i64 (IntKind.wrap .i64 ((k30 : Int) - 1)), .pointer (some ⟨eb130, eo130 + ((IntKind.wrap .i64 ((k30 : Int) - 1)).toNat) * 3, none⟩), .pointer (some ⟨eb130, eo130 + ((IntKind.wrap .i64 ((k30 : Int) - 1)).toNat) * 3 + 0, none⟩), .string (bs ((p_0.Idxs.getD ((IntKind.wrap .i64 ((k30 : Int) - 1)).toNat) d_Idx).Name)), .pointer (some ⟨b95, 0 + 0, none⟩), .string (bs ((p_0.Idxs.getD k30 d_Idx).Name)), .bool (!(sLt ((p_0.Idxs.getD ((IntKind.wrap .i64 ((k30 : Int) - 1)).toNat) d_Idx).Name) ((p_0.Idxs.getD k30 d_Idx).Name))), .bool (!(sLt ((p_0.Idxs.getD ((IntKind.wrap .i64 ((k30 : Int) - 1)).toNat) d_Idx).Name) ((p_0.Idxs.getD k30 d_Idx).Name))), .bool (!(sLt ((p_0.Idxs.getD ((IntKind.wrap .i64 ((k30 : Int) - 1)).toNat) d_Idx).Name) ((p_0.Idxs.getD k30 d_Idx).Name)))] Tryz.follows rfl ⟨?_, ?_, ?_, ?_, ?_, ?_, ?_, ?_, ?_, ?_, ?_, ?_, ?_, ?_, ?_, ?_, ?_, ?_, ?_, ?_, ?_, ?_, ?_, ?_, ?_, ?_, ?_, ?_, ?_, ?_, ?_, ?_, ?_, ?_, ?_, ?_, trivial⟩ ?_
          ·exact oI rfl fun h => yl_fieldAddr fd35_0 rfl (h.old 4 _ rfl rfl) kI
          ·exact oI rfl fun h => yl_load1 ty9 rfl (h.dt 0 29 rfl rfl rfl) (((Box.ex hB102 h.ex).cell 0).trans rfl) kI
          ·intro L142 w143 hi144
           exact OpR.op' rfl (yC en39 rfl (oc (hi144.dt 1 30 rfl rfl rfl) (oc rfl oz)) (Cal.mono (c_s_l24Letters ((p_0.Idxs.getD k30 d_Idx).Name) 1 (okL.getD o3.2.2 ok_d_Idx _)) fun _ _ h => h))
          ·exact oI rfl fun h => yl_not rfl (h.dt 2 31 rfl rfl rfl) kI
          ·exact oI rfl fun h => yM rfl (h.dt 3 32 rfl rfl rfl) kI
          ·exact oW rfl rfl rfl rfl (not_t hb105) fun h => yl_fieldAddr fd35_1 rfl (h.old 4 _ rfl rfl) kI
          ·exact oW rfl rfl rfl rfl (not_t hb105) fun h => yl_load1 ty3 rfl (h.dt 5 34 rfl rfl rfl) (((Box.ex hB102 h.ex).cell 1).trans rfl) kI
          ·exact oW rfl rfl rfl rfl (not_t hb105) fun h => yl_fieldAddr fd26_1 rfl (h.old 1 _ rfl rfl) kI
          ·exact oW rfl rfl rfl rfl (not_t hb105) fun h => yl_load1 ty23 rfl (h.dt 7 36 rfl rfl rfl) (((Box.ex q125 h.ex).cell 1).trans rfl) kI
          ·exact oW rfl rfl rfl rfl (not_t hb105) fun h => yL un23 rfl (h.dt 8 37 rfl rfl rfl) kI
          ·exact oW rfl rfl rfl rfl (not_t hb105) fun h => yl_sub rfl (h.dt 9 38 rfl rfl rfl) rfl kI
          ·intro L198 w199 hi200
           exact OpR.want rfl rfl (hi200.dt 4 33 rfl rfl rfl) (not_t hb105) (yC en41 rfl (oc (hi200.dt 6 35 rfl rfl rfl) (oc rfl (oc (hi200.dt 10 39 rfl rfl rfl) oz))) (Cal.mono (c_s_l1In ((p_0.Idxs.getD k30 d_Idx).Col) 1 (IntKind.wrap .i64 ((p_0.Cols.length : Int) - 1))) fun _ _ h => h))
          ·exact oW rfl rfl rfl rfl (not_t hb105) fun h => yl_not rfl (h.dt 11 40 rfl rfl rfl) kI
          ·exact oI rfl fun h => yl_pick_f rfl (h.dt 4 33 rfl rfl rfl) (not_t hb105) (h.dt 12 41 rfl rfl rfl) kI
          ·exact oI rfl fun h => yM rfl (h.dt 13 42 rfl rfl rfl) kI
          ·exact oW rfl rfl rfl rfl (not_t hb110) fun h => yl_fieldAddr fd35_2 rfl (h.old 4 _ rfl rfl) kI
          ·exact oW rfl rfl rfl rfl (not_t hb110) fun h => yl_load1 ty3 rfl (h.dt 15 44 rfl rfl rfl) (((Box.ex hB102 h.ex).cell 2).trans rfl) kI
          ·intro L238 w239 hi240
           exact OpR.want rfl rfl (hi240.dt 14 43 rfl rfl rfl) (not_t hb110) (yC en41 rfl (oc (hi240.dt 16 45 rfl rfl rfl) (oc rfl (oc rfl oz))) (Cal.mono (c_s_l1In ((p_0.Idxs.getD k30 d_Idx).Stage) 0 3) fun _ _ h => h))
          ·exact oW rfl rfl rfl rfl (not_t hb110) fun h => yl_not rfl (h.dt 17 46 rfl rfl rfl) kI
          ·exact oI rfl fun h => yl_pick_f rfl (h.dt 14 43 rfl rfl rfl) (not_t hb110) (h.dt 18 47 rfl rfl rfl) kI
          ·exact oI rfl fun h => yM rfl (h.dt 19 48 rfl rfl rfl) kI
          ·exact oW rfl rfl rfl rfl (not_t hb116) fun h => yM rfl (h.old 3 _ rfl rfl) kI
          ·exact oW rfl rfl rfl rfl (not_t hb116) fun h => yl_gtr rfl (h.dt 21 50 rfl rfl rfl) rfl kI
          ·exact oW rfl rfl rfl rfl (not_t hb116) fun h => yM rfl (h.dt 22 51 rfl rfl rfl) kI
          ·exact oW rfl rfl rfl rfl hb122 fun h => yl_fieldAddr fd26_2 rfl (h.old 1 _ rfl rfl) kI
          ·exact oW rfl rfl rfl rfl hb122 fun h => yl_load1 ty24 rfl (h.dt 24 53 rfl rfl rfl) (((Box.ex q125 h.ex).cell 2).trans rfl) kI
          ·exact oW rfl rfl rfl rfl hb122 fun h => yM rfl (h.old 3 _ rfl rfl) kI
          ·exact oW rfl rfl rfl rfl hb122 fun h => yl_sub rfl (h.dt 26 55 rfl rfl rfl) rfl kI
          ·intro L307 w308 hi309
           have hE310 := hi309.ex
           have hE310z := Ex.size hE310
           exact OpR.want rfl rfl (hi309.dt 23 52 rfl rfl rfl) hb122 (Yl.sameI (yl_indexAddr un24 ty35 rfl (hi309.dt 25 54 rfl rfl rfl) (hi309.dt 27 56 rfl rfl rfl) eA130 Bo Bo kI))
          ·exact oW rfl rfl rfl rfl hb122 fun h => yl_fieldAddr fd35_0 rfl (h.dt 28 57 rfl rfl rfl) kI
          ·exact oW rfl rfl rfl rfl hb122 fun h => yl_load1 ty9 rfl (h.dt 29 58 rfl rfl rfl) ((Cells.ex eC130 h.ex) 0 _ rfl) kI
          ·exact oW rfl rfl rfl rfl hb122 fun h => yl_fieldAddr fd35_0 rfl (h.old 4 _ rfl rfl) kI
          ·exact oW rfl rfl rfl rfl hb122 fun h => yl_load1 ty9 rfl (h.dt 31 60 rfl rfl rfl) (((Box.ex hB102 h.ex).cell 0).trans rfl) kI
          ·exact oW rfl rfl rfl rfl hb122 fun h => yl_sgeq (a := ((p_0.Idxs.getD ((IntKind.wrap .i64 ((k30 : Int) - 1)).toNat) d_Idx).Name)) (b := ((p_0.Idxs.getD k30 d_Idx).Name)) rfl (h.dt 30 59 rfl rfl rfl) (h.dt 32 61 rfl rfl rfl) kI
          ·exact oW rfl rfl rfl rfl (not_t hb116) fun h => yl_pick_t rfl (h.dt 23 52 rfl rfl rfl) hb122 (h.dt 33 62 rfl rfl rfl) kI
          ·exact oI rfl fun h => yl_pick_f rfl (h.dt 20 49 rfl rfl rfl) (not_t hb116) (h.dt 34 63 rfl rfl rfl) kI
          ·intro fl363 fh364 L360 w361 hp362
           have hE365 := hp362.ex
           have hE365z := Ex.size hE365
           refine dn (CW.sub (sC 1 (hp362.old 1 _ rfl rfl) (sC 22 (hp362.old 22 _ rfl rfl) (sC 23 (hp362.old 23 _ rfl rfl) (sC 24 (hp362.old 24 _ rfl rfl) (sC 34 (hp362.nt 5 34 rfl rfl rfl) (sC 35 (hp362.nt 6 35 rfl rfl rfl) (sC 36 (hp362.nt 7 36 rfl rfl rfl) (sC 37 (hp362.nt 8 37 rfl rfl rfl) (sC 38 (hp362.nt 9 38 rfl rfl rfl) (sC 39 (hp362.nt 10 39 rfl rfl rfl) (sC 40 (hp362.nt 11 40 rfl rfl rfl) (sC 41 (hp362.nt 12 41 rfl rfl rfl) (sC 44 (hp362.nt 15 44 rfl rfl rfl) (sC 45 (hp362.nt 16 45 rfl rfl rfl) (sC 46 (hp362.nt 17 46 rfl rfl rfl) (sC 47 (hp362.nt 18 47 rfl rfl rfl) (sC 50 (hp362.nt 21 50 rfl rfl rfl) (sC 51 (hp362.nt 22 51 rfl rfl rfl) (sC 52 (hp362.nt 23 52 rfl rfl rfl) (sC 53 (hp362.nt 24 53 rfl rfl rfl) (sC 54 (hp362.nt 25 54 rfl rfl rfl) (sC 55 (hp362.nt 26 55 rfl rfl rfl) (sC 56 (hp362.nt 27 56 rfl rfl rfl) (sC 57 (hp362.nt 28 57 rfl rfl rfl) (sC 58 (hp362.nt 29 58 rfl rfl rfl) (sC 59 (hp362.nt 30 59 rfl rfl rfl) (sC 60 (hp362.nt 31 60 rfl rfl rfl) (sC 61 (hp362.nt 32 61 rfl rfl rfl) (sC 62 (hp362.nt 33 62 rfl rfl rfl) (sC 63 (hp362.nt 34 63 rfl rfl rfl) (sC 64 (hp362.nt 35 64 rfl rfl rfl) (Sub.nil _)))))))))))))))))))))))))))))))) ?_)
           refine bcase (sLt ((p_0.Idxs.getD ((IntKind.wrap .i64 ((k30 : Int) - 1)).toNat) d_Idx).Name) ((p_0.Idxs.getD k30 d_Idx).Name)) (fun hb397 => ?_) (fun hb397 => ?_)
           ·refine CW.cond_f rfl (not_t hb397) (CW.skip (bn (tn (CW.region (sd rfl (yl_inc rfl rfl rfl oM (sM rfl (dn ?_))))))))
            have hB398 : B_s_GoodTable_0 p_0 k30 () = .cont () := by simp only [B_s_GoodTable_0, hb16, hb23, hb25, hb105, hb110, hb116, hb122, hb397, cL]
            exact ⟨p_0.Idxs.length - (k30 + 1), oM, k30 + 1, rfl, hlt93, oM, rfl, rfl, rfl, rfl, (Box.ex q125 hE365), (RdS.ex gS (RdS.only gS (RdS.ex gS hf89 hE100) hO103 (by simp only [Iv]; omega)) hE365), (RdS.ex gI q129 hE365), (Ex.trans (Below.only (Ex.trans hf91 hE100) hO103 oM) hE365), (loopM.cont hlt93 hB398).symm.trans hI82⟩
           ·refine CW.cond_t rfl (not_f hb397) (cR (sA rfl (dn (CW.ret (br (tr ?_))))))
            refine tr ?_
            have hB408 : B_s_GoodTable_0 p_0 k30 () = .ret false := by simp only [B_s_GoodTable_0, hb16, hb23, hb25, hb105, hb110, hb116, hb122, hb397, cL]
            have hL407 : loopM (B_s_GoodTable_0 p_0) (p_0.Idxs.length - 0) 0 () = .ret false := hI82.symm.trans (loopM.ret hlt93 hB408)
            refine br (tr (rr rfl (.cons rfl .nil) ?_))
            have hM409 : (s_GoodTable p_0) = (false) := by simp only [s_GoodTable, hb16, hb23, hb25, hb105, hb110, hb116, hb122, hb397, hL407, cL]
            rw [hM409]
            exact ⟨rfl, (Ex.trans (Below.only (Ex.trans hf91 hE100) hO103 oM) hE365)⟩
         ·have hb122p := dec_f hb122
          have q415 := Box.only (Box.ex hf88 hE100) hO103 oM
          refine drI 36 [.pointer (some ⟨b95, 0 + 0, none⟩), .string (bs ((p_0.Idxs.getD k30 d_Idx).Name)), .bool ((s_l24Letters ((p_0.Idxs.getD k30 d_Idx).Name) 1)), .bool (!(s_l24Letters ((p_0.Idxs.getD k30 d_Idx).Name) 1)), .bool (!(s_l24Letters ((p_0.Idxs.getD k30 d_Idx).Name) 1)), .pointer (some ⟨b95, 0 + 1, none⟩), .int .i64 ((p_0.Idxs.getD k30 d_Idx).Col), .pointer (some ⟨b7, 0 + 1, none⟩), .slice A1 p_0.Cols.length c1, .int .i64 ((p_0.Cols.length : Int)), .int .i64 (IntKind.wrap .i64 ((p_0.Cols.length : Int) - 1)), .bool ((s_l1In ((p_0.Idxs.getD k30 d_Idx).Col) 1 (IntKind.wrap .i64 ((p_0.Cols.length : Int) - 1)))), .bool (!(s_l1In ((p_0.Idxs.getD k30 d_Idx).Col) 1 (IntKind.wrap .i64 ((p_0.Cols.length : Int) - 1)))), .bool (!(s_l1In ((p_0.Idxs.getD k30 d_Idx).Col) 1 (IntKind.wrap .i64 ((p_0.Cols.length : Int) - 1)))), .bool (!(s_l1In ((p_0.Idxs.getD k30 d_Idx).Col) 1 (IntKind.wrap .i64 ((p_0.Cols.length : Int) - 1)))), .pointer (some ⟨b95, 0 + 2, none⟩), .int .i64 ((p_0.Idxs.getD k30 d_Idx).Stage), .bool ((s_l1In ((p_0.Idxs.getD k30 d_Idx).Stage) 0 3)), .bool (!(s_l1In ((p_0.Idxs.getD k30 d_Idx).Stage) 0 3)), .bool (!(s_l1In ((p_0.Idxs.getD k30 d_Idx).Stage) 0 3)), .bool (!(s_l1In ((p_0.Idxs.getD k30 d_Idx).Stage) 0 3)), .int .i64 ((k30 : Int)), .bool (decide (0 < (k30 : Int))), .bool (decide (0 < (k30 : Int))), undef, undef, undef, undef, undef, undef, undef, undef, undef, undef, .bool (false), .bool (false)] Tryz.follows rfl ⟨?_, ?_, ?_, ?_, ?_, ?_, ?_, ?_, ?_, ?_, ?_, ?_, ?_, ?_, ?_, ?_, ?_, ?_, ?_, ?_, ?_, ?_, ?_, ?_, ?_, ?_, ?_, ?_, ?_, ?_, ?_, ?_, ?_, ?_, ?_, ?_, trivial⟩ ?_
          ·exact oI rfl fun h => yl_fieldAddr fd35_0 rfl (h.old 4 _ rfl rfl) kI
          ·exact oI rfl fun h => yl_load1 ty9 rfl (h.dt 0 29 rfl rfl rfl) (((Box.ex hB102 h.ex).cell 0).trans rfl) kI
          ·intro L429 w430 hi431
           exact OpR.op' rfl (yC en39 rfl (oc (hi431.dt 1 30 rfl rfl rfl) (oc rfl oz)) (Cal.mono (c_s_l24Letters ((p_0.Idxs.getD k30 d_Idx).Name) 1 (okL.getD o3.2.2 ok_d_Idx _)) fun _ _ h => h))
          ·exact oI rfl fun h => yl_not rfl (h.dt 2 31 rfl rfl rfl) kI
          ·exact oI rfl fun h => yM rfl (h.dt 3 32 rfl rfl rfl) kI
          ·exact oW rfl rfl rfl rfl (not_t hb105) fun h => yl_fieldAddr fd35_1 rfl (h.old 4 _ rfl rfl) kI
          ·exact oW rfl rfl rfl rfl (not_t hb105) fun h => yl_load1 ty3 rfl (h.dt 5 34 rfl rfl rfl) (((Box.ex hB102 h.ex).cell 1).trans rfl) kI
          ·exact oW rfl rfl rfl rfl (not_t hb105) fun h => yl_fieldAddr fd26_1 rfl (h.old 1 _ rfl rfl) kI
          ·exact oW rfl rfl rfl rfl (not_t hb105) fun h => yl_load1 ty23 rfl (h.dt 7 36 rfl rfl rfl) (((Box.ex q415 h.ex).cell 1).trans rfl) kI
          ·exact oW rfl rfl rfl rfl (not_t hb105) fun h => yL un23 rfl (h.dt 8 37 rfl rfl rfl) kI
          ·exact oW rfl rfl rfl rfl (not_t hb105) fun h => yl_sub rfl (h.dt 9 38 rfl rfl rfl) rfl kI
          ·intro L485 w486 hi487
           exact OpR.want rfl rfl (hi487.dt 4 33 rfl rfl rfl) (not_t hb105) (yC en41 rfl (oc (hi487.dt 6 35 rfl rfl rfl) (oc rfl (oc (hi487.dt 10 39 rfl rfl rfl) oz))) (Cal.mono (c_s_l1In ((p_0.Idxs.getD k30 d_Idx).Col) 1 (IntKind.wrap .i64 ((p_0.Cols.length : Int) - 1))) fun _ _ h => h))
          ·exact oW rfl rfl rfl rfl (not_t hb105) fun h => yl_not rfl (h.dt 11 40 rfl rfl rfl) kI
          ·exact oI rfl fun h => yl_pick_f rfl (h.dt 4 33 rfl rfl rfl) (not_t hb105) (h.dt 12 41 rfl rfl rfl) kI
          ·exact oI rfl fun h => yM rfl (h.dt 13 42 rfl rfl rfl) kI
          ·exact oW rfl rfl rfl rfl (not_t hb110) fun h => yl_fieldAddr fd35_2 rfl (h.old 4 _ rfl rfl) kI
          ·exact oW rfl rfl rfl rfl (not_t hb110) fun h => yl_load1 ty3 rfl (h.dt 15 44 rfl rfl rfl) (((Box.ex hB102 h.ex).cell 2).trans rfl) kI
          ·intro L525 w526 hi527
           exact OpR.want rfl rfl (hi527.dt 14 43 rfl rfl rfl) (not_t hb110) (yC en41 rfl (oc (hi527.dt 16 45 rfl rfl rfl) (oc rfl (oc rfl oz))) (Cal.mono (c_s_l1In ((p_0.Idxs.getD k30 d_Idx).Stage) 0 3) fun _ _ h => h))
          ·exact oW rfl rfl rfl rfl (not_t hb110) fun h => yl_not rfl (h.dt 17 46 rfl rfl rfl) kI
          ·exact oI rfl fun h => yl_pick_f rfl (h.dt 14 43 rfl rfl rfl) (not_t hb110) (h.dt 18 47 rfl rfl rfl) kI
          ·exact oI rfl fun h => yM rfl (h.dt 19 48 rfl rfl rfl) kI
          ·exact oW rfl rfl rfl rfl (not_t hb116) fun h => yM rfl (h.old 3 _ rfl rfl) kI
          ·exact oW rfl rfl rfl rfl (not_t hb116) fun h => yl_gtr rfl (h.dt 21 50 rfl rfl rfl) rfl kI
          ·exact oW rfl rfl rfl rfl (not_t hb116) fun h => yM rfl (h.dt 22 51 rfl rfl rfl) kI
          ·exact oS rfl rfl rfl rfl rfl hb122
          ·exact oS rfl rfl rfl rfl rfl hb122
          ·exact oS rfl rfl rfl rfl rfl hb122
          ·exact oS rfl rfl rfl rfl rfl hb122
          ·exact oS rfl rfl rfl rfl rfl hb122
          ·exact oS rfl rfl rfl rfl rfl hb122
          ·exact oS rfl rfl rfl rfl rfl hb122
          ·exact oS rfl rfl rfl rfl rfl hb122
          ·exact oS rfl rfl rfl rfl rfl hb122
          ·exact oS rfl rfl rfl rfl rfl hb122
          ·exact oW rfl rfl rfl rfl (not_t hb116) fun h => yl_pick_f rfl (h.dt 23 52 rfl rfl rfl) hb122 rfl kI
          ·exact oI rfl fun h => yl_pick_f rfl (h.dt 20 49 rfl rfl rfl) (not_t hb116) (h.dt 34 63 rfl rfl rfl) kI
          ·intro fl635 fh636 L632 w633 hp634
           have hE637 := hp634.ex
           have hE637z := Ex.size hE637
           refine dn (CW.sub (sC 1 (hp634.old 1 _ rfl rfl) (sC 22 (hp634.old 22 _ rfl rfl) (sC 23 (hp634.old 23 _ rfl rfl) (sC 24 (hp634.old 24 _ rfl rfl) (sC 34 (hp634.nt 5 34 rfl rfl rfl) (sC 35 (hp634.nt 6 35 rfl rfl rfl) (sC 36 (hp634.nt 7 36 rfl rfl rfl) (sC 37 (hp634.nt 8 37 rfl rfl rfl) (sC 38 (hp634.nt 9 38 rfl rfl rfl) (sC 39 (hp634.nt 10 39 rfl rfl rfl) (sC 40 (hp634.nt 11 40 rfl rfl rfl) (sC 41 (hp634.nt 12 41 rfl rfl rfl) (sC 44 (hp634.nt 15 44 rfl rfl rfl) (sC 45 (hp634.nt 16 45 rfl rfl rfl) (sC 46 (hp634.nt 17 46 rfl rfl rfl) (sC 47 (hp634.nt 18 47 rfl rfl rfl) (sC 50 (hp634.nt 21 50 rfl rfl rfl) (sC 51 (hp634.nt 22 51 rfl rfl rfl) (sC 52 (hp634.nt 23 52 rfl rfl rfl) (sC 53 (hp634.nt 24 53 rfl rfl rfl) (sC 54 (hp634.nt 25 54 rfl rfl rfl) (sC 55 (hp634.nt 26 55 rfl rfl rfl) (sC 56 (hp634.nt 27 56 rfl rfl rfl) (sC 57 (hp634.nt 28 57 rfl rfl rfl) (sC 58 (hp634.nt 29 58 rfl rfl rfl) (sC 59 (hp634.nt 30 59 rfl rfl rfl) (sC 60 (hp634.nt 31 60 rfl rfl rfl) (sC 61 (hp634.nt 32 61 rfl rfl rfl) (sC 62 (hp634.nt 33 62 rfl rfl rfl) (sC 63 (hp634.nt 34 63 rfl rfl rfl) (sC 64 (hp634.nt 35 64 rfl rfl rfl) (Sub.nil _)))))))))))))))))))))))))))))))) ?_)
           refine CW.cond_f rfl rfl (CW.skip (bn (tn (CW.region (sd rfl (yl_inc rfl rfl rfl oM (sM rfl (dn ?_))))))))
           have hB669 : B_s_GoodTable_0 p_0 k30 () = .cont () := by simp only [B_s_GoodTable_0, hb16, hb23, hb25, hb105, hb110, hb116, hb122, cL]
           exact ⟨p_0.Idxs.length - (k30 + 1), oM, k30 + 1, rfl, hlt93, oM, rfl, rfl, rfl, rfl, (Box.ex q415 hE637), (RdS.ex gS (RdS.only gS (RdS.ex gS hf89 hE100) hO103 (by simp only [Iv]; omega)) hE637), (RdS.ex gI (RdS.only gI (RdS.ex gI hf90 hE100) hO103 (by simp only [Iv]; omega)) hE637), (Ex.trans (Below.only (Ex.trans hf91 hE100) hO103 oM) hE637), (loopM.cont hlt93 hB669).symm.trans hI82⟩
        ·refine drI 36 [.pointer (some ⟨b95, 0 + 0, none⟩), .string (bs ((p_0.Idxs.getD k30 d_Idx).Name)), .bool ((s_l24Letters ((p_0.Idxs.getD k30 d_Idx).Name) 1)), .bool (!(s_l24Letters ((p_0.Idxs.getD k30 d_Idx).Name) 1)), .bool (!(s_l24Letters ((p_0.Idxs.getD k30 d_Idx).Name) 1)), .pointer (some ⟨b95, 0 + 1, none⟩), .int .i64 ((p_0.Idxs.getD k30 d_Idx).Col), .pointer (some ⟨b7, 0 + 1, none⟩), .slice A1 p_0.Cols.length c1, .int .i64 ((p_0.Cols.length : Int)), .int .i64 (IntKind.wrap .i64 ((p_0.Cols.length : Int) - 1)), .bool ((s_l1In ((p_0.Idxs.getD k30 d_Idx).Col) 1 (IntKind.wrap .i64 ((p_0.Cols.length : Int) - 1)))), .bool (!(s_l1In ((p_0.Idxs.getD k30 d_Idx).Col) 1 (IntKind.wrap .i64 ((p_0.Cols.length : Int) - 1)))), .bool (!(s_l1In ((p_0.Idxs.getD k30 d_Idx).Col) 1 (IntKind.wrap .i64 ((p_0.Cols.length : Int) - 1)))), .bool (!(s_l1In ((p_0.Idxs.getD k30 d_Idx).Col) 1 (IntKind.wrap .i64 ((p_0.Cols.length : Int) - 1)))), .pointer (some ⟨b95, 0 + 2, none⟩), .int .i64 ((p_0.Idxs.getD k30 d_Idx).Stage), .bool ((s_l1In ((p_0.Idxs.getD k30 d_Idx).Stage) 0 3)), .bool (!(s_l1In ((p_0.Idxs.getD k30 d_Idx).Stage) 0 3)), .bool (!(s_l1In ((p_0.Idxs.getD k30 d_Idx).Stage) 0 3)), .bool (!(s_l1In ((p_0.Idxs.getD k30 d_Idx).Stage) 0 3)), undef, undef, undef, undef, undef, undef, undef, undef, undef, undef, undef, undef, undef, undef, .bool (true)] Tryz.follows rfl ⟨?_, ?_, ?_, ?_, ?_, ?_, ?_, ?_, ?_, ?_, ?_, ?_, ?_, ?_, ?_, ?_, ?_, ?_, ?_, ?_, ?_, ?_, ?_, ?_, ?_, ?_, ?_, ?_, ?_, ?_, ?_, ?_, ?_, ?_, ?_, ?_, trivial⟩ ?_
         ·exact oI rfl fun h => yl_fieldAddr fd35_0 rfl (h.old 4 _ rfl rfl) kI
         ·exact oI rfl fun h => yl_load1 ty9 rfl (h.dt 0 29 rfl rfl rfl) (((Box.ex hB102 h.ex).cell 0).trans rfl) kI
         ·intro L696 w697 hi698
          exact OpR.op' rfl (yC en39 rfl (oc (hi698.dt 1 30 rfl rfl rfl) (oc rfl oz)) (Cal.mono (c_s_l24Letters ((p_0.Idxs.getD k30 d_Idx).Name) 1 (okL.getD o3.2.2 ok_d_Idx _)) fun _ _ h => h))
         ·exact oI rfl fun h => yl_not rfl (h.dt 2 31 rfl rfl rfl) kI
         ·exact oI rfl fun h => yM rfl (h.dt 3 32 rfl rfl rfl) kI
         ·exact oW rfl rfl rfl rfl (not_t hb105) fun h => yl_fieldAddr fd35_1 rfl (h.old 4 _ rfl rfl) kI
         ·exact oW rfl rfl rfl rfl (not_t hb105) fun h => yl_load1 ty3 rfl (h.dt 5 34 rfl rfl rfl) (((Box.ex hB102 h.ex).cell 1).trans rfl) kI
         ·exact oW rfl rfl rfl rfl (not_t hb105) fun h => yl_fieldAddr fd26_1 rfl (h.old 1 _ rfl rfl) kI
         ·intro L733 w734 hi735
          have hE736 := hi735.ex
          have hE736z := Ex.size hE736
          exact OpR.want rfl rfl (hi735.dt 4 33 rfl rfl rfl) (not_t hb105) (Yl.sameI (yl_load1 ty23 rfl (hi735.dt 7 36 rfl rfl rfl) (((Box.ex (Box.only (Box.ex hf88 hE100) hO103 oM) hE736).cell 1).trans rfl) kI))
         ·exact oW rfl rfl rfl rfl (not_t hb105) fun h => yL un23 rfl (h.dt 8 37 rfl rfl rfl) kI
         ·exact oW rfl rfl rfl rfl (not_t hb105) fun h => yl_sub rfl (h.dt 9 38 rfl rfl rfl) rfl kI
         ·intro L752 w753 hi754
          exact OpR.want rfl rfl (hi754.dt 4 33 rfl rfl rfl) (not_t hb105) (yC en41 rfl (oc (hi754.dt 6 35 rfl rfl rfl) (oc rfl (oc (hi754.dt 10 39 rfl rfl rfl) oz))) (Cal.mono (c_s_l1In ((p_0.Idxs.getD k30 d_Idx).Col) 1 (IntKind.wrap .i64 ((p_0.Cols.length : Int) - 1))) fun _ _ h => h))
         ·exact oW rfl rfl rfl rfl (not_t hb105) fun h => yl_not rfl (h.dt 11 40 rfl rfl rfl) kI
         ·exact oI rfl fun h => yl_pick_f rfl (h.dt 4 33 rfl rfl rfl) (not_t hb105) (h.dt 12 41 rfl rfl rfl) kI
         ·exact oI rfl fun h => yM rfl (h.dt 13 42 rfl rfl rfl) kI
         ·exact oW rfl rfl rfl rfl (not_t hb110) fun h => yl_fieldAddr fd35_2 rfl (h.old 4 _ rfl rfl) kI
         ·exact oW rfl rfl rfl rfl (not_t hb110) fun h => yl_load1 ty3 rfl (h.dt 15 44 rfl rfl rfl) (((Box.ex hB102 h.ex).cell 2).trans rfl) kI
         ·intro L792 w793 hi794
          exact OpR.want rfl rfl (hi794.dt 14 43 rfl rfl rfl) (not_t hb110) (yC en41 rfl (oc (hi794.dt 16 45 rfl rfl rfl) (oc rfl (oc rfl oz))) (Cal.mono (c_s_l1In ((p_0.Idxs.getD k30 d_Idx).Stage) 0 3) fun _ _ h => h))
         ·exact oW rfl rfl rfl rfl (not_t hb110) fun h => yl_not rfl (h.dt 17 46 rfl rfl rfl) kI
         ·exact oI rfl fun h => yl_pick_f rfl (h.dt 14 43 rfl rfl rfl) (not_t hb110) (h.dt 18 47 rfl rfl rfl) kI
         ·exact oI rfl fun h => yM rfl (h.dt 19 48 rfl rfl rfl) kI
         ·exact oS rfl rfl rfl rfl rfl (not_f hb116)
         ·exact oS rfl rfl rfl rfl rfl (not_f hb116)
         ·exact oS rfl rfl rfl rfl rfl (not_f hb116)
         ·exact oU rfl rfl rfl rfl rfl
         ·exact oU rfl rfl rfl rfl rfl
         ·exact oU rfl rfl rfl rfl rfl
         ·exact oU rfl rfl rfl rfl rfl
         ·exact oU rfl rfl rfl rfl rfl
         ·exact oU rfl rfl rfl rfl rfl
         ·exact oU rfl rfl rfl rfl rfl
         ·exact oU rfl rfl rfl rfl rfl
         ·exact oU rfl rfl rfl rfl rfl
         ·exact oU rfl rfl rfl rfl rfl
         ·exact oS rfl rfl rfl rfl rfl (not_f hb116)
         ·exact oI rfl fun h => yl_pick_t rfl (h.dt 20 49 rfl rfl rfl) (not_f hb116) rfl kI
         ·intro fl897 fh898 L894 w895 hp896
          have hE899 := hp896.ex
          have hE899z := Ex.size hE899
          refine dn (CW.sub (sC 1 (hp896.old 1 _ rfl rfl) (sC 22 (hp896.old 22 _ rfl rfl) (sC 23 (hp896.old 23 _ rfl rfl) (sC 24 (hp896.old 24 _ rfl rfl) (sC 34 (hp896.nt 5 34 rfl rfl rfl) (sC 35 (hp896.nt 6 35 rfl rfl rfl) (sC 36 (hp896.nt 7 36 rfl rfl rfl) (sC 37 (hp896.nt 8 37 rfl rfl rfl) (sC 38 (hp896.nt 9 38 rfl rfl rfl) (sC 39 (hp896.nt 10 39 rfl rfl rfl) (sC 40 (hp896.nt 11 40 rfl rfl rfl) (sC 41 (hp896.nt 12 41 rfl rfl rfl) (sC 44 (hp896.nt 15 44 rfl rfl rfl) (sC 45 (hp896.nt 16 45 rfl rfl rfl) (sC 46 (hp896.nt 17 46 rfl rfl rfl) (sC 47 (hp896.nt 18 47 rfl rfl rfl) (sC 50 (hp896.nt 21 50 rfl rfl rfl) (sC 51 (hp896.nt 22 51 rfl rfl rfl) (sC 52 (hp896.nt 23 52 rfl rfl rfl) (sC 53 (hp896.nt 24 53 rfl rfl rfl) (sC 54 (hp896.nt 25 54 rfl rfl rfl) (sC 55 (hp896.nt 26 55 rfl rfl rfl) (sC 56 (hp896.nt 27 56 rfl rfl rfl) (sC 57 (hp896.nt 28 57 rfl rfl rfl) (sC 58 (hp896.nt 29 58 rfl rfl rfl) (sC 59 (hp896.nt 30 59 rfl rfl rfl) (sC 60 (hp896.nt 31 60 rfl rfl rfl) (sC 61 (hp896.nt 32 61 rfl rfl rfl) (sC 62 (hp896.nt 33 62 rfl rfl rfl) (sC 63 (hp896.nt 34 63 rfl rfl rfl) (sC 64 (hp896.nt 35 64 rfl rfl rfl) (Sub.nil _)))))))))))))))))))))))))))))))) ?_)
          refine CW.cond_t rfl rfl (cR (sA rfl (dn (CW.ret (br (tr ?_))))))
          refine tr ?_
          have hB932 : B_s_GoodTable_0 p_0 k30 () = .ret false := by simp only [B_s_GoodTable_0, hb16, hb23, hb25, hb105, hb110, hb116, cL]
          have hL931 : loopM (B_s_GoodTable_0 p_0) (p_0.Idxs.length - 0) 0 () = .ret false := hI82.symm.trans (loopM.ret hlt93 hB932)
          refine br (tr (rr rfl (.cons rfl .nil) ?_))
          have hM933 : (s_GoodTable p_0) = (false) := by simp only [s_GoodTable, hb16, hb23, hb25, hb105, hb110, hb116, hL931, cL]
          rw [hM933]
          exact ⟨rfl, (Ex.trans (Below.only (Ex.trans hf91 hE100) hO103 oM) hE899)⟩
       ·refine drI 36 [.pointer (some ⟨b95, 0 + 0, none⟩), .string (bs ((p_0.Idxs.getD k30 d_Idx).Name)), .bool ((s_l24Letters ((p_0.Idxs.getD k30 d_Idx).Name) 1)), .bool (!(s_l24Letters ((p_0.Idxs.getD k30 d_Idx).Name) 1)), .bool (!(s_l24Letters ((p_0.Idxs.getD k30 d_Idx).Name) 1)), .pointer (some ⟨b95, 0 + 1, none⟩), .int .i64 ((p_0.Idxs.getD k30 d_Idx).Col), .pointer (some ⟨b7, 0 + 1, none⟩), .slice A1 p_0.Cols.length c1, .int .i64 ((p_0.Cols.length : Int)), .int .i64 (IntKind.wrap .i64 ((p_0.Cols.length : Int) - 1)), .bool ((s_l1In ((p_0.Idxs.getD k30 d_Idx).Col) 1 (IntKind.wrap .i64 ((p_0.Cols.length : Int) - 1)))), .bool (!(s_l1In ((p_0.Idxs.getD k30 d_Idx).Col) 1 (IntKind.wrap .i64 ((p_0.Cols.length : Int) - 1)))), .bool (!(s_l1In ((p_0.Idxs.getD k30 d_Idx).Col) 1 (IntKind.wrap .i64 ((p_0.Cols.length : Int) - 1)))), .bool (!(s_l1In ((p_0.Idxs.getD k30 d_Idx).Col) 1 (IntKind.wrap .i64 ((p_0.Cols.length : Int) - 1)))), undef, undef, undef, undef, .bool (true), .bool (true), undef, undef, undef, undef, undef, undef, undef, undef, undef, undef, undef, undef, undef, undef, .bool (true)] Tryz.follows rfl ⟨?_, ?_, ?_, ?_, ?_, ?_, ?_, ?_, ?_, ?_, ?_, ?_, ?_, ?_, ?_, ?_, ?_, ?_, ?_, ?_, ?_, ?_, ?_, ?_, ?_, ?_, ?_, ?_, ?_, ?_, ?_, ?_, ?_, ?_, ?_, ?_, trivial⟩ ?_
        ·exact oI rfl fun h => yl_fieldAddr fd35_0 rfl (h.old 4 _ rfl rfl) kI
        ·exact oI rfl fun h => yl_load1 ty9 rfl (h.dt 0 29 rfl rfl rfl) (((Box.ex hB102 h.ex).cell 0).trans rfl) kI
        ·intro L952 w953 hi954
         exact OpR.op' rfl (yC en39 rfl (oc (hi954.dt 1 30 rfl rfl rfl) (oc rfl oz)) (Cal.mono (c_s_l24Letters ((p_0.Idxs.getD k30 d_Idx).Name) 1 (okL.getD o3.2.2 ok_d_Idx _)) fun _ _ h => h))
        ·exact oI rfl fun h => yl_not rfl (h.dt 2 31 rfl rfl rfl) kI
        ·exact oI rfl fun h => yM rfl (h.dt 3 32 rfl rfl rfl) kI
        ·exact oW rfl rfl rfl rfl (not_t hb105) fun h => yl_fieldAddr fd35_1 rfl (h.old 4 _ rfl rfl) kI
        ·exact oW rfl rfl rfl rfl (not_t hb105) fun h => yl_load1 ty3 rfl (h.dt 5 34 rfl rfl rfl) (((Box.ex hB102 h.ex).cell 1).trans rfl) kI
        ·exact oW rfl rfl rfl rfl (not_t hb105) fun h => yl_fieldAddr fd26_1 rfl (h.old 1 _ rfl rfl) kI
        ·intro L989 w990 hi991
         have hE992 := hi991.ex
         have hE992z := Ex.size hE992
         exact OpR.want rfl rfl (hi991.dt 4 33 rfl rfl rfl) (not_t hb105) (Yl.sameI (yl_load1 ty23 rfl (hi991.dt 7 36 rfl rfl rfl) (((Box.ex (Box.only (Box.ex hf88 hE100) hO103 oM) hE992).cell 1).trans rfl) kI))
        ·exact oW rfl rfl rfl rfl (not_t hb105) fun h => yL un23 rfl (h.dt 8 37 rfl rfl rfl) kI
        ·exact oW rfl rfl rfl rfl (not_t hb105) fun h => yl_sub rfl (h.dt 9 38 rfl rfl rfl) rfl kI
        ·intro L1008 w1009 hi1010
         exact OpR.want rfl rfl (hi1010.dt 4 33 rfl rfl rfl) (not_t hb105) (yC en41 rfl (oc (hi1010.dt 6 35 rfl rfl rfl) (oc rfl (oc (hi1010.dt 10 39 rfl rfl rfl) oz))) (Cal.mono (c_s_l1In ((p_0.Idxs.getD k30 d_Idx).Col) 1 (IntKind.wrap .i64 ((p_0.Cols.length : Int) - 1))) fun _ _ h => h))
        ·exact oW rfl rfl rfl rfl (not_t hb105) fun h => yl_not rfl (h.dt 11 40 rfl rfl rfl) kI
        ·exact oI rfl fun h => yl_pick_f rfl (h.dt 4 33 rfl rfl rfl) (not_t hb105) (h.dt 12 41 rfl rfl rfl) kI
        ·exact oI rfl fun h => yM rfl (h.dt 13 42 rfl rfl rfl) kI
        ·exact oS rfl rfl rfl rfl rfl (not_f hb110)
        ·exact oS rfl rfl rfl rfl rfl (not_f hb110)
        ·exact oS rfl rfl rfl rfl rfl (not_f hb110)
        ·exact oS rfl rfl rfl rfl rfl (not_f hb110)
        ·exact oI rfl fun h => yl_pick_t rfl (h.dt 14 43 rfl rfl rfl) (not_f hb110) rfl kI
        ·exact oI rfl fun h => yM rfl (h.dt 19 48 rfl rfl rfl) kI
        ·exact oS rfl rfl rfl rfl rfl rfl
        ·exact oS rfl rfl rfl rfl rfl rfl
        ·exact oS rfl rfl rfl rfl rfl rfl
        ·exact oU rfl rfl rfl rfl rfl
        ·exact oU rfl rfl rfl rfl rfl
        ·exact oU rfl rfl rfl rfl rfl
        ·exact oU rfl rfl rfl rfl rfl
        ·exact oU rfl rfl rfl rfl rfl
        ·exact oU rfl rfl rfl rfl rfl
        ·exact oU rfl rfl rfl rfl rfl
        ·exact oU rfl rfl rfl rfl rfl
        ·exact oU rfl rfl rfl rfl rfl
        ·exact oU rfl rfl rfl rfl rfl
        ·exact oS rfl rfl rfl rfl rfl rfl
        ·exact oI rfl fun h => yl_pick_t rfl (h.dt 20 49 rfl rfl rfl) rfl rfl kI
        ·intro fl1145 fh1146 L1142 w1143 hp1144
         have hE1147 := hp1144.ex
         have hE1147z := Ex.size hE1147
         refine dn (CW.sub (sC 1 (hp1144.old 1 _ rfl rfl) (sC 22 (hp1144.old 22 _ rfl rfl) (sC 23 (hp1144.old 23 _ rfl rfl) (sC 24 (hp1144.old 24 _ rfl rfl) (sC 34 (hp1144.nt 5 34 rfl rfl rfl) (sC 35 (hp1144.nt 6 35 rfl rfl rfl) (sC 36 (hp1144.nt 7 36 rfl rfl rfl) (sC 37 (hp1144.nt 8 37 rfl rfl rfl) (sC 38 (hp1144.nt 9 38 rfl rfl rfl) (sC 39 (hp1144.nt 10 39 rfl rfl rfl) (sC 40 (hp1144.nt 11 40 rfl rfl rfl) (sC 41 (hp1144.nt 12 41 rfl rfl rfl) (sC 44 (hp1144.nt 15 44 rfl rfl rfl) (sC 45 (hp1144.nt 16 45 rfl rfl rfl) (sC 46 (hp1144.nt 17 46 rfl rfl rfl) (sC 47 (hp1144.nt 18 47 rfl rfl rfl) (sC 50 (hp1144.nt 21 50 rfl rfl rfl) (sC 51 (hp1144.nt 22 51 rfl rfl rfl) (sC 52 (hp1144.nt 23 52 rfl rfl rfl) (sC 53 (hp1144.nt 24 53 rfl rfl rfl) (sC 54 (hp1144.nt 25 54 rfl rfl rfl) (sC 55 (hp1144.nt 26 55 rfl rfl rfl) (sC 56 (hp1144.nt 27 56 rfl rfl rfl) (sC 57 (hp1144.nt 28 57 rfl rfl rfl) (sC 58 (hp1144.nt 29 58 rfl rfl rfl) (sC 59 (hp1144.nt 30 59 rfl rfl rfl) (sC 60 (hp1144.nt 31 60 rfl rfl rfl) (sC 61 (hp1144.nt 32 61 rfl rfl rfl) (sC 62 (hp1144.nt 33 62 rfl rfl rfl) (sC 63 (hp1144.nt 34 63 rfl rfl rfl) (sC 64 (hp1144.nt 35 64 rfl rfl rfl) (Sub.nil _)))))))))))))))))))))))))))))))) ?_)
         refine CW.cond_t rfl rfl (cR (sA rfl (dn (CW.ret (br (tr ?_))))))
         refine tr ?_
         have hB1180 : B_s_GoodTable_0 p_0 k30 () = .ret false := by simp only [B_s_GoodTable_0, hb16, hb23, hb25, hb105, hb110, cL]
         have hL1179 : loopM (B_s_GoodTable_0 p_0) (p_0.Idxs.length - 0) 0 () = .ret false := hI82.symm.trans (loopM.ret hlt93 hB1180)
         refine br (tr (rr rfl (.cons rfl .nil) ?_))
         have hM1181 : (s_GoodTable p_0) = (false) := by simp only [s_GoodTable, hb16, hb23, hb25, hb105, hb110, hL1179, cL]
         rw [hM1181]
         exact ⟨rfl, (Ex.trans (Below.only (Ex.trans hf91 hE100) hO103 oM) hE1147)⟩
      ·refine drI 36 [.pointer (some ⟨b95, 0 + 0, none⟩), .string (bs ((p_0.Idxs.getD k30 d_Idx).Name)), .bool ((s_l24Letters ((p_0.Idxs.getD k30 d_Idx).Name) 1)), .bool (!(s_l24Letters ((p_0.Idxs.getD k30 d_Idx).Name) 1)), .bool (!(s_l24Letters ((p_0.Idxs.getD k30 d_Idx).Name) 1)), undef, undef, undef, undef, undef, undef, undef, undef, .bool (true), .bool (true), undef, undef, undef, undef, .bool (true), .bool (true), undef, undef, undef, undef, undef, undef, undef, undef, undef, undef, undef, undef, undef, undef, .bool (true)] Tryz.follows rfl ⟨?_, ?_, ?_, ?_, ?_, ?_, ?_, ?_, ?_, ?_, ?_, ?_, ?_, ?_, ?_, ?_, ?_, ?_, ?_, ?_, ?_, ?_, ?_, ?_, ?_, ?_, ?_, ?_, ?_, ?_, ?_, ?_, ?_, ?_, ?_, ?_, trivial⟩ ?_
       ·exact oI rfl fun h => yl_fieldAddr fd35_0 rfl (h.old 4 _ rfl rfl) kI
       ·exact oI rfl fun h => yl_load1 ty9 rfl (h.dt 0 29 rfl rfl rfl) (((Box.ex hB102 h.ex).cell 0).trans rfl) kI
       ·intro L1197 w1198 hi1199
        exact OpR.op' rfl (yC en39 rfl (oc (hi1199.dt 1 30 rfl rfl rfl) (oc rfl oz)) (Cal.mono (c_s_l24Letters ((p_0.Idxs.getD k30 d_Idx).Name) 1 (okL.getD o3.2.2 ok_d_Idx _)) fun _ _ h => h))
       ·exact oI rfl fun h => yl_not rfl (h.dt 2 31 rfl rfl rfl) kI
       ·exact oI rfl fun h => yM rfl (h.dt 3 32 rfl rfl rfl) kI
       ·exact oS rfl rfl rfl rfl rfl (not_f hb105)
       ·exact oS rfl rfl rfl rfl rfl (not_f hb105)
       ·exact oS rfl rfl rfl rfl rfl (not_f hb105)
       ·exact oS rfl rfl rfl rfl rfl (not_f hb105)
       ·exact oS rfl rfl rfl rfl rfl (not_f hb105)
       ·exact oS rfl rfl rfl rfl rfl (not_f hb105)
       ·exact oS rfl rfl rfl rfl rfl (not_f hb105)
       ·exact oS rfl rfl rfl rfl rfl (not_f hb105)
       ·exact oI rfl fun h => yl_pick_t rfl (h.dt 4 33 rfl rfl rfl) (not_f hb105) rfl kI
       ·exact oI rfl fun h => yM rfl (h.dt 13 42 rfl rfl rfl) kI
       ·exact oS rfl rfl rfl rfl rfl rfl
       ·exact oS rfl rfl rfl rfl rfl rfl
       ·exact oS rfl rfl rfl rfl rfl rfl
       ·exact oS rfl rfl rfl rfl rfl rfl
       ·exact oI rfl fun h => yl_pick_t rfl (h.dt 14 43 rfl rfl rfl) rfl rfl kI
       ·exact oI rfl fun h => yM rfl (h.dt 19 48 rfl rfl rfl) kI
       ·exact oS rfl rfl rfl rfl rfl rfl
       ·exact oS rfl rfl rfl rfl rfl rfl
       ·exact oS rfl rfl rfl rfl rfl rfl
       ·exact oU rfl rfl rfl rfl rfl
       ·exact oU rfl rfl rfl rfl rfl
       ·exact oU rfl rfl rfl rfl rfl
       ·exact oU rfl rfl rfl rfl rfl
       ·exact oU rfl rfl rfl rfl rfl
       ·exact oU rfl rfl rfl rfl rfl
       ·exact oU rfl rfl rfl rfl rfl
       ·exact oU rfl rfl rfl rfl rfl
       ·exact oU rfl rfl rfl rfl rfl
       ·exact oU rfl rfl rfl rfl rfl
       ·exact oS rfl rfl rfl rfl rfl rfl
       ·exact oI rfl fun h => yl_pick_t rfl (h.dt 20 49 rfl rfl rfl) rfl rfl kI
       ·intro fl1376 fh1377 L1373 w1374 hp1375
        have hE1378 := hp1375.ex
        have hE1378z := Ex.size hE1378
        refine dn (CW.sub (sC 1 (hp1375.old 1 _ rfl rfl) (sC 22 (hp1375.old 22 _ rfl rfl) (sC 23 (hp1375.old 23 _ rfl rfl) (sC 24 (hp1375.old 24 _ rfl rfl) (sC 34 (hp1375.nt 5 34 rfl rfl rfl) (sC 35 (hp1375.nt 6 35 rfl rfl rfl) (sC 36 (hp1375.nt 7 36 rfl rfl rfl) (sC 37 (hp1375.nt 8 37 rfl rfl rfl) (sC 38 (hp1375.nt 9 38 rfl rfl rfl) (sC 39 (hp1375.nt 10 39 rfl rfl rfl) (sC 40 (hp1375.nt 11 40 rfl rfl rfl) (sC 41 (hp1375.nt 12 41 rfl rfl rfl) (sC 44 (hp1375.nt 15 44 rfl rfl rfl) (sC 45 (hp1375.nt 16 45 rfl rfl rfl) (sC 46 (hp1375.nt 17 46 rfl rfl rfl) (sC 47 (hp1375.nt 18 47 rfl rfl rfl) (sC 50 (hp1375.nt 21 50 rfl rfl rfl) (sC 51 (hp1375.nt 22 51 rfl rfl rfl) (sC 52 (hp1375.nt 23 52 rfl rfl rfl) (sC 53 (hp1375.nt 24 53 rfl rfl rfl) (sC 54 (hp1375.nt 25 54 rfl rfl rfl) (sC 55 (hp1375.nt 26 55 rfl rfl rfl) (sC 56 (hp1375.nt 27 56 rfl rfl rfl) (sC 57 (hp1375.nt 28 57 rfl rfl rfl) (sC 58 (hp1375.nt 29 58 rfl rfl rfl) (sC 59 (hp1375.nt 30 59 rfl rfl rfl) (sC 60 (hp1375.nt 31 60 rfl rfl rfl) (sC 61 (hp1375.nt 32 61 rfl rfl rfl) (sC 62 (hp1375.nt 33 62 rfl rfl rfl) (sC 63 (hp1375.nt 34 63 rfl rfl rfl) (sC 64 (hp1375.nt 35 64 rfl rfl rfl) (Sub.nil _)))))))))))))))))))))))))))))))) ?_)
        refine CW.cond_t rfl rfl (cR (sA rfl (dn (CW.ret (br (tr ?_))))))
        refine tr ?_
        have hB1411 : B_s_GoodTable_0 p_0 k30 () = .ret false := by simp only [B_s_GoodTable_0, hb16, hb23, hb25, hb105, cL]
        have hL1410 : loopM (B_s_GoodTable_0 p_0) (p_0.Idxs.length - 0) 0 () = .ret false := hI82.symm.trans (loopM.ret hlt93 hB1411)
        refine br (tr (rr rfl (.cons rfl .nil) ?_))
        have hM1412 : (s_GoodTable p_0) = (false) := by simp only [s_GoodTable, hb16, hb23, hb25, hb105, hL1410, cL]
        rw [hM1412]
        exact ⟨rfl, (Ex.trans (Below.only (Ex.trans hf91 hE100) hO103 oM) hE1378)⟩
     ·refine cR (sd rfl (yl_lss rfl rfl rfl (dn (CW.seq (CW.cond_f rfl (lt_f hlt93) (CW.exit (tx ?_)))))))
      refine tx ?_
      have hL1416 : loopM (B_s_GoodTable_0 p_0) (p_0.Idxs.length - 0) 0 () = .done () := hI82.symm.trans (loopM.stop hlt93)
      refine bx (tn (cR (sA rfl (dn (CW.ret (rr rfl (.cons rfl .nil) ?_))))))
      have hM1417 : (s_GoodTable p_0) = (true) := by simp only [s_GoodTable, hb16, hb23, hb25, hL1416, cL]
      rw [hM1417]
      exact ⟨rfl, hf91⟩
  ·refine sz rfl rfl (not_f hb23) (sz rfl rfl (not_f hb23) (sz rfl rfl (not_f hb23) (sz rfl rfl (not_f hb23) (sd rfl (yl_pick_t rfl rfl (not_f hb23) rfl (dn (CW.cond_t rfl rfl (CW.seq ?_))))))))
   refine CW.region (sA rfl (dn (CW.ret (tr (rr rfl (.cons rfl .nil) ?_)))))
   have hM1418 : (s_GoodTable p_0) = (false) := by simp only [s_GoodTable, hb16, hb23, cL]
   rw [hM1418]
   exact ⟨rfl, (Ex.trans (Ex.trans (Ex.trans (Ex.refl w) hE12) hE15) hE22)⟩
 ·refine sz rfl rfl (not_f hb16) (sz rfl rfl (not_f hb16) (sz rfl rfl (not_f hb16) (sz rfl rfl (not_f hb16) (sd rfl (yl_pick_t rfl rfl (not_f hb16) rfl (sM rfl (sz rfl rfl rfl (sz rfl rfl rfl (sz rfl rfl rfl ?_)))))))))
  refine sz rfl rfl rfl (sd rfl (yl_pick_t rfl rfl rfl rfl (dn (CW.cond_t rfl rfl (cR (sA rfl (SeqR.done ?_)))))))
  refine tn (CW.ret (tr (rr rfl (.cons rfl .nil) ?_)))
  have hM1422 : (s_GoodTable p_0) = (false) := by simp only [s_GoodTable, hb16, cL]
  rw [hM1422]
  exact ⟨rfl, (Ex.trans (Ex.trans (Ex.refl w) hE12) hE15)⟩
theorem c_s_l24Idx {A1 : Option Addr} {c1 : Nat} {A2 : Option Addr} {c2 : Nat} {w : World} (p_t : DTable) (pn : Str) (h1 : RdS w (Iv 0 w.heap.size) (RF e_Str) 1 A1 p_t.Cols.length c1 p_t.Cols) (h2 : RdS w (Iv 0 w.heap.size) (RF e_Idx) 3 A2 p_t.Idxs.length c2 p_t.Idxs) (o3 : ok_Table p_t) (o4 : okS pn) : Cal Tryz.prog 34 #[.agg #[.string (bs (p_t.Name)), .slice A1 p_t.Cols.length c1, .slice A2 p_t.Idxs.length c2], .string (bs (pn))] w fun v w' => v = .int .i64 ((s_l24Idx p_t pn)) ∧ Ex w w' := by
 have hol5 : p_t.Name.length ≤ 1073741824 := o3.1
 have hol6 := o3.2.1.1
 have hol7 := o3.2.2.1
 have hol8 : pn.length ≤ 1073741824 := o4
 refine Cal.of func34 rfl ntmps34 rfl (cR (sd rfl (yl_box rfl rfl rfl ?_)))
 intro b9 w10 hs11 hz12 hB13 hE14
 refine sA rfl (dn (CW.seq (cR (sd rfl (yl_fieldAddr fd26_2 rfl rfl (sd rfl (yl_load1 ty24 rfl rfl ((hB13.cell 2).trans rfl) (sd rfl (yL un24 rfl rfl ?_)))))))))
 refine sM rfl (dn (CW.block (CW.loop (fun m27 L28 w29 => ∃ (k15 : Nat), m27 = p_t.Idxs.length - k15 ∧ k15 ≤ p_t.Idxs.length ∧ w10.heap.size ≤ w29.heap.size ∧ lkp L28 1 = some (.string (bs (pn))) ∧ lkp L28 8 = some (.slice A2 p_t.Idxs.length c2) ∧ lkp L28 9 = some (.int .i64 ((p_t.Idxs.length : Int))) ∧ lkp L28 10 = some (.int .i64 ((k15 : Int))) ∧ RdS w29 (Iv 0 w.heap.size) (RF e_Idx) 3 A2 p_t.Idxs.length c2 p_t.Idxs ∧ Ex w w29 ∧ loopM (B_s_l24Idx_0 p_t pn) (p_t.Idxs.length - k15) k15 () = loopM (B_s_l24Idx_0 p_t pn) (p_t.Idxs.length - 0) 0 ()) (p_t.Idxs.length - 0) ?_ ?_)))
 ·exact ⟨0, rfl, oM, Nat.le_refl _, rfl, rfl, rfl, rfl, (RdS.ex gI h2 hE14), (Ex.trans (Ex.refl w) hE14), rfl⟩
 ·rintro m32 L33 w34 ⟨k15, rfl, hk35, hsz37, hl38, hl39, hl40, hl41, hf42, hf43, hI36⟩
  refine CW.sub (Sub.cons hl38 (Sub.cons hl39 (Sub.cons hl40 (Sub.cons hl41 (Sub.nil _))))) ?_
  have hf43z := Ex.size hf43
  have hbg44 := RdS.big hf42
  rcases Nat.lt_or_ge k15 p_t.Idxs.length with hlt45 | hlt45
  ·refine cR (sd rfl (yl_lss rfl rfl rfl (dn (CW.seq (CW.cond_t rfl (lt_t hlt45) (CW.skip (tn ?_)))))))
   refine CW.seq (CW.block (cR (sM rfl ?_)))
   obtain ⟨eb46, eo46, _, eA46, _, ebl46, _, eR46, eC46⟩ := RdS.aD hf42 d_Idx (i := k15)
   obtain rfl := eR46
   have eC46 : Cells w34 eb46 (eo46 + k15 * 3) [.string (bs ((p_t.Idxs.getD k15 d_Idx).Name)), .int .i64 ((p_t.Idxs.getD k15 d_Idx).Col), .int .i64 ((p_t.Idxs.getD k15 d_Idx).Stage)] := eC46
   refine sd rfl (yl_ixN un24 ty35 rfl rfl rfl eA46 (sd rfl (yl_loadN ty35 rfl rfl eC46 rfl (sd rfl (yB ty35 (cs := [.string (bs (([] : Str))), .int .i64 (0), .int .i64 (0)]) rfl rfl ?_)))))
   intro b47 w48 hs49 hz50 hB51 hE52
   refine sA rfl (SeqR.u rfl rfl (yl_store (vs := [.string (bs ((p_t.Idxs.getD k15 d_Idx).Name)), .int .i64 ((p_t.Idxs.getD k15 d_Idx).Col), .int .i64 ((p_t.Idxs.getD k15 d_Idx).Stage)]) ty35 rfl rfl rfl rfl rfl rfl hB51 (nb rfl) ?_))
   intro w53 hB54 hO55
   have hB54 : Box w53 b47 35 [.string (bs ((p_t.Idxs.getD k15 d_Idx).Name)), .int .i64 ((p_t.Idxs.getD k15 d_Idx).Col), .int .i64 ((p_t.Idxs.getD k15 d_Idx).Stage)] := hB54
   have hO55z := hO55.size
   refine dn (cR (sd rfl (yl_fieldAddr fd35_0 rfl rfl (sd rfl (yl_load1 ty9 rfl rfl ((hB54.cell 0).trans rfl) (sM rfl (sd rfl (yl_seql (a := ((p_t.Idxs.getD k15 d_Idx).Name)) (b := pn) rfl rfl rfl (SeqR.done ?_)))))))))
   refine tn (bcase (((p_t.Idxs.getD k15 d_Idx).Name) == pn) (fun hb56 => ?_) (fun hb56 => ?_))
   ·refine CW.cond_t rfl hb56 (cR (sM rfl (sA rfl (dn (CW.ret (br ?_))))))
    refine tr (tr ?_)
    have hB58 : B_s_l24Idx_0 p_t pn k15 () = .ret (k15 : Int) := by simp only [B_s_l24Idx_0, hb56, cL]
    have hL57 : loopM (B_s_l24Idx_0 p_t pn) (p_t.Idxs.length - 0) 0 () = .ret (k15 : Int) := hI36.symm.trans (loopM.ret hlt45 hB58)
    refine br (tr (rr rfl (.cons rfl .nil) ?_))
    have hM59 : (s_l24Idx p_t pn) = ((k15 : Int)) := by simp only [s_l24Idx, hb56, hL57, cL]
    rw [hM59]
    exact ⟨rfl, (Below.only (Ex.trans hf43 hE52) hO55 oM)⟩
   ·refine CW.cond_f rfl hb56 (CW.skip (bn (tn (CW.region (sd rfl (yl_inc rfl rfl rfl oM (sM rfl (dn ?_))))))))
    have hB62 : B_s_l24Idx_0 p_t pn k15 () = .cont () := by simp only [B_s_l24Idx_0, hb56, cL]
    exact ⟨p_t.Idxs.length - (k15 + 1), oM, k15 + 1, rfl, hlt45, oM, rfl, rfl, rfl, rfl, (RdS.only gI (RdS.ex gI hf42 hE52) hO55 (by simp only [Iv]; omega)), (Below.only (Ex.trans hf43 hE52) hO55 oM), (loopM.cont hlt45 hB62).symm.trans hI36⟩
  ·refine cR (sd rfl (yl_lss rfl rfl rfl (dn (CW.seq (CW.cond_f rfl (lt_f hlt45) (CW.exit (tx ?_)))))))
   refine tx ?_
   have hL67 : loopM (B_s_l24Idx_0 p_t pn) (p_t.Idxs.length - 0) 0 () = .done () := hI36.symm.trans (loopM.stop hlt45)
   refine bx (tn (cR (sA rfl (dn (CW.ret (rr rfl (.cons rfl .nil) ?_))))))
   have hM68 : (s_l24Idx p_t pn) = (-1) := by simp only [s_l24Idx, hL67, cL]
   rw [hM68]
   exact ⟨rfl, hf43⟩
theorem c_s_l24Asked {A1 : Option Addr} {c1 : Nat} {A2 : Option Addr} {c2 : Nat} {w : World} (p_t : DTable) (pn : Str) (p_stage : Int) (h1 : RdS w (Iv 0 w.heap.size) (RF e_Str) 1 A1 p_t.Cols.length c1 p_t.Cols) (h2 : RdS w (Iv 0 w.heap.size) (RF e_Idx) 3 A2 p_t.Idxs.length c2 p_t.Idxs) (o3 : ok_Table p_t) (o4 : okS pn) : Cal Tryz.prog 29 #[.agg #[.string (bs (p_t.Name)), .slice A1 p_t.Cols.length c1, .slice A2 p_t.Idxs.length c2], .string (bs (pn)), .int .i64 (p_stage)] w fun v w' => v = .bool ((s_l24Asked p_t pn p_stage)) ∧ Ex w w' := by
 refine Cal.of func29 rfl ntmps29 rfl (cR (sd rfl (yl_box rfl rfl rfl ?_)))
 intro b9 w10 hs11 hz12 hB13 hE14
 refine sA rfl (dn (cR (sd rfl (yl_loadN ty26 rfl rfl (hB13.cells (n := 3) rfl) rfl ?_))))
 have q15 := RdS.ex gS h1 hE14
 have q16 := RdS.ex gI h2 hE14
 refine sd rfl (yC en14 rfl (oc rfl oz) (Cal.mono (c_s_GoodTable p_t (RdS.up q15 gS) (RdS.up q16 gI) o3) ?_))
 rintro v18 w17 ⟨rfl, hE19⟩
 refine sM rfl (bcase (s_GoodTable p_t) (fun hb20 => ?_) (fun hb20 => ?_))
 ·have hb20p := f_s_GoodTable hb20
  refine sy rfl rfl hb20 (yl_loadN ty26 rfl rfl ((Box.ex hB13 hE19).cells (n := 3) rfl) rfl (sy rfl rfl hb20 (yM rfl rfl (sy rfl rfl hb20 (yC en34 rfl (oc rfl (oc rfl oz)) (Cal.mono (c_s_l24Idx p_t pn (RdS.up (RdS.ex gS q15 hE19) gS) (RdS.up (RdS.ex gI q16 hE19) gI) o3 o4) ?_))))))
  rintro v25 w24 ⟨rfl, hE26⟩
  have hrf27 := rf_s_l24Idx p_t pn
  refine sy rfl rfl hb20 (yl_geq rfl rfl rfl (sd rfl (yl_pick_t rfl rfl hb20 rfl (sM rfl (bcase (decide (0 ≤ (s_l24Idx p_t pn))) (fun hb28 => ?_) (fun hb28 => ?_))))))
  ·have hb28p := dec_t hb28
   refine sy rfl rfl hb28 (yM rfl rfl (sy rfl rfl hb28 (yC en41 rfl (oc rfl (oc rfl (oc rfl oz))) (Cal.mono (c_s_l1In p_stage 0 3) ?_))))
   rintro v30 w29 ⟨rfl, hE31⟩
   refine sd rfl (yl_pick_t rfl rfl hb28 rfl (sA rfl (dn (CW.ret (rr rfl (.cons rfl .nil) ?_)))))
   have hM32 : (s_l24Asked p_t pn p_stage) = ((s_l1In p_stage 0 3)) := by simp only [s_l24Asked, hb20, hb28, cL]
   rw [hM32]
   exact ⟨rfl, (Ex.trans (Ex.trans (Ex.trans (Ex.trans (Ex.refl w) hE14) hE19) hE26) hE31)⟩
  ·have hb28p := dec_f hb28
   refine sz rfl rfl hb28 (sz rfl rfl hb28 (sd rfl (yl_pick_f rfl rfl hb28 rfl (sA rfl (dn (CW.ret (rr rfl (.cons rfl .nil) ?_)))))))
   have hM37 : (s_l24Asked p_t pn p_stage) = (false) := by simp only [s_l24Asked, hb20, hb28, cL]
   rw [hM37]
   exact ⟨rfl, (Ex.trans (Ex.trans (Ex.trans (Ex.refl w) hE14) hE19) hE26)⟩
 ·refine sz rfl rfl hb20 (sz rfl rfl hb20 (sz rfl rfl hb20 (sz rfl rfl hb20 (sd rfl (yl_pick_f rfl rfl hb20 rfl (sM rfl (sz rfl rfl rfl (sz rfl rfl rfl (sd rfl (yl_pick_f rfl rfl rfl rfl ?_))))))))))
  refine sA rfl (dn (CW.ret (rr rfl (.cons rfl .nil) ?_)))
  have hM41 : (s_l24Asked p_t pn p_stage) = (false) := by simp only [s_l24Asked, hb20, cL]
  rw [hM41]
  exact ⟨rfl, (Ex.trans (Ex.trans (Ex.refl w) hE14) hE19)⟩
theorem c_s_l24Own {A1 : Option Addr} {c1 : Nat} {A2 : Option Addr} {c2 : Nat} {w : World} (p_t : DTable) (h1 : RdS w (Iv 0 w.heap.size) (RF e_Str) 1 A1 p_t.Cols.length c1 p_t.Cols) (h2 : RdS w (Iv 0 w.heap.size) (RF e_Idx) 3 A2 p_t.Idxs.length c2 p_t.Idxs) (o3 : ok_Table p_t) : Cal Tryz.prog 49 #[.agg #[.string (bs (p_t.Name)), .slice A1 p_t.Cols.length c1, .slice A2 p_t.Idxs.length c2]] w fun v w' => ∃ A_1 c_1 lo_1 hi_1 A_2 c_2 lo_2 hi_2, v = .agg #[.string (bs ((s_l24Own p_t).Name)), .slice A_1 (((s_l24Own p_t).Cols).length) c_1, .slice A_2 (((s_l24Own p_t).Idxs).length) c_2] ∧ OwnL w' lo_1 hi_1 9 1 (RF e_Str) A_1 (((s_l24Own p_t).Cols).length) c_1 ((s_l24Own p_t).Cols) ∧ OwnL w' lo_2 hi_2 35 3 (RF e_Idx) A_2 (((s_l24Own p_t).Idxs).length) c_2 ((s_l24Own p_t).Idxs) ∧ ok_Table (s_l24Own p_t) ∧ (w.heap.size ≤ lo_1 ∧ lo_1 ≤ hi_1 ∧ hi_1 ≤ w'.heap.size) ∧ (w.heap.size ≤ lo_2 ∧ lo_2 ≤ hi_2 ∧ hi_2 ≤ w'.heap.size) ∧ (hi_1 ≤ lo_2 ∨ hi_2 ≤ lo_1) ∧ Ex w w' := by
 have hol4 : p_t.Name.length ≤ 1073741824 := o3.1
 have hol5 := o3.2.1.1
 have hol6 := o3.2.2.1
 refine Cal.of func49 rfl ntmps49 rfl (cR (sd rfl (yl_box rfl rfl rfl ?_)))
 intro b7 w8 hs9 hz10 hB11 hE12
 refine sd rfl (yB ty26 (cs := [.string (bs (([] : Str))), .slice none 0 0, .slice none 0 0]) rfl rfl ?_)
 intro b13 w14 hs15 hz16 hB17 hE18
 refine dn (CW.seq ?_)
 have q19 := Box.ex hB11 hE18
 refine CW.drawsI 10 (vgetI [DetI (.pointer (some ⟨b7, 0 + 0, none⟩)), DetI (.string (bs (p_t.Name))), fun lo hi v wq => ∃ A20, v = .slice A20 0 0 ∧ OwnL wq w14.heap.size w14.heap.size 9 1 (RF e_Str) A20 0 0 ([] : List Str), DetI (.pointer (some ⟨b7, 0 + 1, none⟩)), DetI (.slice A1 p_t.Cols.length c1), fun lo hi v wq => ∃ A22 c23, v = .slice A22 ((([] : List Str) ++ p_t.Cols).length) c23 ∧ OwnL wq lo hi 9 1 (RF e_Str) A22 ((([] : List Str) ++ p_t.Cols).length) c23 (([] : List Str) ++ p_t.Cols), fun lo hi v wq => ∃ A25, v = .slice A25 0 0 ∧ OwnL wq w14.heap.size w14.heap.size 35 3 (RF e_Idx) A25 0 0 ([] : List DIdx), DetI (.pointer (some ⟨b7, 0 + 2, none⟩)), DetI (.slice A2 p_t.Idxs.length c2), fun lo hi v wq => ∃ A27 c28, v = .slice A27 ((([] : List DIdx) ++ p_t.Idxs).length) c28 ∧ OwnL wq lo hi 35 3 (RF e_Idx) A27 ((([] : List DIdx) ++ p_t.Idxs).length) c28 (([] : List DIdx) ++ p_t.Idxs)]) Tryz.follows rfl rfl rfl rfl rfl rfl (vgetI_stable ⟨StableI.det _, StableI.det _, (fun _ _ _ _ _ ⟨A20, hv, hO21⟩ e => ⟨A20, hv, OwnL.ex gS hO21 e⟩), StableI.det _, StableI.det _, (fun _ _ _ _ _ ⟨A22, c23, hv, hO⟩ e => ⟨A22, c23, hv, OwnL.ex gS hO e⟩), (fun _ _ _ _ _ ⟨A25, hv, hO26⟩ e => ⟨A25, hv, OwnL.ex gI hO26 e⟩), StableI.det _, StableI.det _, (fun _ _ _ _ _ ⟨A27, c28, hv, hO⟩ e => ⟨A27, c28, hv, OwnL.ex gI hO e⟩), trivial⟩) ⟨?_, ?_, ?_, ?_, ?_, ?_, ?_, ?_, ?_, ?_, trivial⟩ ?_
 ·exact oI rfl fun h => yl_fieldAddr fd26_0 rfl (h.old 1 _ rfl rfl) kI
 ·exact oI rfl fun h => yl_load1 ty9 rfl (h.dt 0 3 rfl rfl rfl) (((Box.ex q19 h.ex).cell 0).trans rfl) kI
 ·intro L41 w42 hi43
  refine OpR.op' rfl (yl_buildSlice (cs := []) un23 ty9 (by decide) rfl opvs_nil (by kernel_rfl) ?_)
  intro b45 w46 hs47 hz48 hB49 hE50
  have hO51 : OwnL w46 b45 (b45 + 1) 9 1 (RF e_Str) (some ⟨b45, 0, none⟩) 0 0 ([] : List Str) := OwnL.of_box (S := fun _ => False) hB49 (Nat.le_refl _) (Nat.lt_succ_self _) EncL.nil (nb rfl) (fun h => h) (fun _ h => False.elim h)
  exact ⟨⟨_, rfl, OwnL.empty _ _ _ _ _ _ _⟩, hE50⟩
 ·exact oI rfl fun h => yl_fieldAddr fd26_1 rfl (h.old 1 _ rfl rfl) kI
 ·exact oI rfl fun h => yl_load1 ty23 rfl (h.dt 3 6 rfl rfl rfl) (((Box.ex q19 h.ex).cell 1).trans rfl) kI
 ·intro L63 w64 hi65
  have hE66 := hi65.ex
  have hE66z := Ex.size hE66
  obtain ⟨lo68, hh69, _, hx67, hr70, hr71, hr72, A20_73, rfl, h74⟩ := hi65.dep 2 5 rfl rfl
  obtain ⟨nw79, he80, hs81⟩ := RdS.src (RdS.ex gS (RdS.ex gS (RdS.ex gS h1 hE12) hE18) hE66)
  have hol82 : p_t.Cols.length ≤ 2147483648 := o3.2.1.1
  refine OpR.op' rfl (yl_appendL (S := (fun _ => False)) (lo := w64.heap.size) (hi := w64.heap.size) (xs := ([] : List Str)) (ys := p_t.Cols) gS un23 ty9 rfl (nb rfl) rfl hx67 (hi65.dt 4 7 rfl rfl rfl) (OwnL.empty w64 w64.heap.size w64.heap.size 9 1 (RF e_Str) A20_73) he80 hs81 rfl Bl Bl oM oM (fun _ h _ => False.elim h) oM ?_)
  intro A83 c84 w85 row86 hO87 hG88 hrg89
  have hG88z := hG88.size
  exact ⟨⟨A83, c84, rfl, OwnL.more hO87 oM oM⟩, Below.grown (Ex.refl _) hG88 (Nat.le_refl _) (fun k hk => by have := hrg89 k hk; omega)⟩
 ·intro L90 w91 hi92
  refine OpR.op' rfl (yl_buildSlice (cs := []) un24 ty35 (by decide) rfl opvs_nil (by kernel_rfl) ?_)
  intro b94 w95 hs96 hz97 hB98 hE99
  have hO100 : OwnL w95 b94 (b94 + 1) 35 3 (RF e_Idx) (some ⟨b94, 0, none⟩) 0 0 ([] : List DIdx) := OwnL.of_box (S := fun _ => False) hB98 (Nat.le_refl _) (Nat.lt_succ_self _) EncL.nil (nb rfl) (fun h => h) (fun _ h => False.elim h)
  exact ⟨⟨_, rfl, OwnL.empty _ _ _ _ _ _ _⟩, hE99⟩
 ·exact oI rfl fun h => yl_fieldAddr fd26_2 rfl (h.old 1 _ rfl rfl) kI
 ·exact oI rfl fun h => yl_load1 ty24 rfl (h.dt 7 10 rfl rfl rfl) (((Box.ex q19 h.ex).cell 2).trans rfl) kI
 ·intro L112 w113 hi114
  have hE115 := hi114.ex
  have hE115z := Ex.size hE115
  obtain ⟨lo117, hh118, _, hx116, hr119, hr120, hr121, A25_122, rfl, h123⟩ := hi114.dep 6 9 rfl rfl
  obtain ⟨nw128, he129, hs130⟩ := RdS.src (RdS.ex gI (RdS.ex gI (RdS.ex gI h2 hE12) hE18) hE115)
  have hol131 : p_t.Idxs.length ≤ 2147483648 := o3.2.2.1
  refine OpR.op' rfl (yl_appendL (S := (fun _ => False)) (lo := w113.heap.size) (hi := w113.heap.size) (xs := ([] : List DIdx)) (ys := p_t.Idxs) gI un24 ty35 rfl (nb rfl) rfl hx116 (hi114.dt 8 11 rfl rfl rfl) (OwnL.empty w113 w113.heap.size w113.heap.size 35 3 (RF e_Idx) A25_122) he129 hs130 rfl Bl Bl oM oM (fun _ h _ => False.elim h) oM ?_)
  intro A132 c133 w134 row135 hO136 hG137 hrg138
  have hG137z := hG137.size
  exact ⟨⟨A132, c133, rfl, OwnL.more hO136 oM oM⟩, Below.grown (Ex.refl _) hG137 (Nat.le_refl _) (fun k hk => by have := hrg138 k hk; omega)⟩
 ·intro fl142 fh143 L139 w140 hp141
  have hE144 := hp141.ex
  have hE144z := Ex.size hE144
  have hx145 := hp141.old 2 _ rfl rfl
  have hr148 := hp141.rng 5 rfl
  obtain ⟨_, hx147, A22_149, c23_150, rfl, h151⟩ := hp141.new 5 8 rfl rfl
  have hr153 := hp141.rng 9 rfl
  have hsp154 := hp141.sep 5 9 rfl rfl rfl
  obtain ⟨_, hx152, A27_155, c28_156, rfl, h157⟩ := hp141.new 9 12 rfl rfl
  refine sd rfl (yl_build (cs := [.string (bs (p_t.Name)), .slice A22_149 ((([] : List Str) ++ p_t.Cols).length) c23_150, .slice A27_155 ((([] : List DIdx) ++ p_t.Idxs).length) c28_156]) rfl (oc (hp141.nt 1 4 rfl rfl rfl) (oc hx147 (oc hx152 oz))) (by kernel_rfl) (SeqR.u rfl rfl (yl_store (vs := [.string (bs (p_t.Name)), .slice A22_149 ((([] : List Str) ++ p_t.Cols).length) c23_150, .slice A27_155 ((([] : List DIdx) ++ p_t.Idxs).length) c28_156]) ty26 rfl hx145 rfl rfl rfl rfl (Box.ex hB17 hE144) (nb rfl) ?_)))
  intro w159 hB160 hO161
  have hB160 : Box w159 b13 26 [.string (bs (p_t.Name)), .slice A22_149 ((([] : List Str) ++ p_t.Cols).length) c23_150, .slice A27_155 ((([] : List DIdx) ++ p_t.Idxs).length) c28_156] := hB160
  have hO161z := hO161.size
  refine dn (CW.sub (sC 2 hx145 (Sub.nil _)) (CW.ret (rr rfl (.cons ⟨_, rfl, run_loadN ty26 (cs := [.string (bs (p_t.Name)), .slice A22_149 ((([] : List Str) ++ p_t.Cols).length) c23_150, .slice A27_155 ((([] : List DIdx) ++ p_t.Idxs).length) c28_156]) rfl (hB160.cells (n := 3) rfl)⟩ .nil) ?_)))
  have hM162 : (s_l24Own p_t) = ((⟨p_t.Name, (([] : List Str) ++ p_t.Cols), (([] : List DIdx) ++ p_t.Idxs)⟩ : DTable)) := by simp only [s_l24Own, cL]
  have hol165 : p_t.Cols.length ≤ 2147483648 := o3.2.1.1
  have hol166 : p_t.Idxs.length ≤ 2147483648 := o3.2.2.1
  rw [hM162]
  exact ⟨A22_149, c23_150, (fl142 5), (fh143 5), A27_155, c28_156, (fl142 9), (fh143 9), rfl, (OwnL.only gS h151 hO161 oM), (OwnL.only gI h157 hO161 oM), ⟨o3.1, (okL.mk (xs := (([] : List Str) ++ p_t.Cols)) Bl (okE.append okE.nil (o3.2.1).2)), (okL.mk (xs := (([] : List DIdx) ++ p_t.Idxs)) Bl (okE.append okE.nil (o3.2.2).2))⟩, oM, oM, oM, (Below.only (Ex.trans (Ex.trans (Ex.trans (Ex.refl w) hE12) hE18) hE144) hO161 oM)⟩
theorem c_s_l24Set {A1 : Option Addr} {c1 : Nat} {A2 : Option Addr} {c2 : Nat} {w : World} (p_t : DTable) (pn : Str) (p_stage : Int) (h1 : RdS w (Iv 0 w.heap.size) (RF e_Str) 1 A1 p_t.Cols.length c1 p_t.Cols) (h2 : RdS w (Iv 0 w.heap.size) (RF e_Idx) 3 A2 p_t.Idxs.length c2 p_t.Idxs) (o3 : ok_Table p_t) (o4 : okS pn) (pre0 : (0 ≤ s_l24Idx p_t pn ∧ s_l24Idx p_t pn < (p_t.Idxs.length : Int))) : Cal Tryz.prog 32 #[.agg #[.string (bs (p_t.Name)), .slice A1 p_t.Cols.length c1, .slice A2 p_t.Idxs.length c2], .string (bs (pn)), .int .i64 (p_stage)] w fun v w' => ∃ A_1 c_1 lo_1 hi_1 A_2 c_2 lo_2 hi_2, v = .agg #[.string (bs ((s_l24Set p_t pn p_stage).Name)), .slice A_1 (((s_l24Set p_t pn p_stage).Cols).length) c_1, .slice A_2 (((s_l24Set p_t pn p_stage).Idxs).length) c_2] ∧ OwnL w' lo_1 hi_1 9 1 (RF e_Str) A_1 (((s_l24Set p_t pn p_stage).Cols).length) c_1 ((s_l24Set p_t pn p_stage).Cols) ∧ OwnL w' lo_2 hi_2 35 3 (RF e_Idx) A_2 (((s_l24Set p_t pn p_stage).Idxs).length) c_2 ((s_l24Set p_t pn p_stage).Idxs) ∧ ok_Table (s_l24Set p_t pn p_stage) ∧ (w.heap.size ≤ lo_1 ∧ lo_1 ≤ hi_1 ∧ hi_1 ≤ w'.heap.size) ∧ (w.heap.size ≤ lo_2 ∧ lo_2 ≤ hi_2 ∧ hi_2 ≤ w'.heap.size) ∧ (hi_1 ≤ lo_2 ∨ hi_2 ≤ lo_1) ∧ Ex w w' := by
 have hol5 : p_t.Name.length ≤ 1073741824 := o3.1
 have hol6 := o3.2.1.1
 have hol7 := o3.2.2.1
 have hol8 : pn.length ≤ 1073741824 := o4
 refine Cal.of func32 rfl ntmps32 rfl (cR (sd rfl (yl_box rfl rfl rfl ?_)))
 intro b9 w10 hs11 hz12 hB13 hE14
 refine sd rfl (yB ty26 (cs := [.string (bs (([] : Str))), .slice none 0 0, .slice none 0 0]) rfl rfl ?_)
 intro b15 w16 hs17 hz18 hB19 hE20
 refine dn (cR ?_)
 have q21 := Box.ex hB13 hE20
 refine sd rfl (yl_loadN ty26 rfl rfl (q21.cells (n := 3) rfl) rfl ?_)
 have q23 := RdS.ex gS (RdS.ex gS h1 hE14) hE20
 have q25 := RdS.ex gI (RdS.ex gI h2 hE14) hE20
 refine sd rfl (yC en49 rfl (oc rfl oz) (Cal.mono (c_s_l24Own p_t (RdS.up q23 gS) (RdS.up q25 gI) o3) ?_))
 rintro v30 w26 ⟨A27, c27, lo27, hi27, A28, c28, lo28, hi28, rfl, h27, h28, ho29, hrn32, hrn33, hrn34, hE31⟩
 have hE31z := Ex.size hE31
 have hrf35 := rf_l24Own p_t
 refine sd rfl (yB ty26 (cs := [.string (bs (([] : Str))), .slice none 0 0, .slice none 0 0]) rfl rfl ?_)
 intro b36 w37 hs38 hz39 hB40 hE41
 refine SeqR.u rfl rfl (yl_store (vs := [.string (bs ((s_l24Own p_t).Name)), .slice A27 (((s_l24Own p_t).Cols).length) c27, .slice A28 (((s_l24Own p_t).Idxs).length) c28]) ty26 rfl rfl rfl rfl rfl rfl hB40 (nb rfl) ?_)
 intro w42 hB43 hO44
 have hB43 : Box w42 b36 26 [.string (bs ((s_l24Own p_t).Name)), .slice A27 (((s_l24Own p_t).Cols).length) c27, .slice A28 (((s_l24Own p_t).Idxs).length) c28] := hB43
 have hO44z := hO44.size
 refine dn (CW.seq ?_)
 have hrf55 := rf_s_l24Idx p_t pn
 refine drI 6 [.pointer (some ⟨b36, 0 + 2, none⟩), .slice A28 (((s_l24Own p_t).Idxs).length) c28, .agg #[.string (bs (p_t.Name)), .slice A1 p_t.Cols.length c1, .slice A2 p_t.Idxs.length c2], .string (bs (pn)), .int .i64 ((s_l24Idx p_t pn)), .int .i64 (p_stage)] Tryz.follows rfl ⟨?_, ?_, ?_, ?_, ?_, ?_, trivial⟩ ?_
 ·exact oI rfl fun h => yl_fieldAddr fd26_2 rfl (h.old 7 _ rfl rfl) kI
 ·exact oI rfl fun h => yl_load1 ty24 rfl (h.dt 0 10 rfl rfl rfl) (((Box.ex hB43 h.ex).cell 2).trans rfl) kI
 ·intro L67 w68 hi69
  have hE70 := hi69.ex
  have hE70z := Ex.size hE70
  exact os rfl ((yl_loadN ty26 rfl (hi69.old 3 _ rfl rfl) ((Box.ex (Box.only (Box.ex (Box.ex q21 hE31) hE41) hO44 oM) hE70).cells (n := 3) rfl) rfl kI))
 ·exact oI rfl fun h => yM rfl (h.old 1 _ rfl rfl) kI
 ·intro L78 w79 hi80
  have hE81 := hi80.ex
  have hE81z := Ex.size hE81
  exact OpR.op' rfl (yC en34 rfl (oc (hi80.dt 2 12 rfl rfl rfl) (oc (hi80.dt 3 13 rfl rfl rfl) oz)) (Cal.mono (c_s_l24Idx p_t pn (RdS.up (RdS.ex gS (RdS.only gS (RdS.ex gS (RdS.ex gS q23 hE31) hE41) hO44 (by simp only [Iv]; omega)) hE81) gS) (RdS.up (RdS.ex gI (RdS.only gI (RdS.ex gI (RdS.ex gI q25 hE31) hE41) hO44 (by simp only [Iv]; omega)) hE81) gI) o3 o4) fun _ _ h => h))
 ·exact oI rfl fun h => yM rfl (h.old 2 _ rfl rfl) kI
 ·intro fl97 fh98 L94 w95 hp96
  have hE99 := hp96.ex
  have hE99z := Ex.size hE99
  have q108 := OwnL.ex gI (OwnL.only gI (OwnL.ex gI h28 hE41) hO44 oM) hE99
  obtain ⟨eb109, eo109, _, eA109, _, ebl109, _, eR109, eC109⟩ := RdS.atD (OwnL.rd gI q108) d_Idx (i := ((s_l24Idx p_t pn)).toNat) Bo
  obtain rfl := eR109
  have eC109 : Cells w95 eb109 (eo109 + (((s_l24Idx p_t pn)).toNat) * 3) [.string (bs ((((s_l24Own p_t).Idxs).getD (((s_l24Idx p_t pn)).toNat) d_Idx).Name)), .int .i64 ((((s_l24Own p_t).Idxs).getD (((s_l24Idx p_t pn)).toNat) d_Idx).Col), .int .i64 ((((s_l24Own p_t).Idxs).getD (((s_l24Idx p_t pn)).toNat) d_Idx).Stage)] := eC109
  refine sd rfl (yl_indexAddr un24 ty35 rfl (hp96.nt 1 11 rfl rfl rfl) (hp96.nt 4 14 rfl rfl rfl) eA109 Bo Bo (sd rfl (yl_fieldAddr fd35_2 rfl rfl ?_)))
  have hrg110 := OwnL.rng q108 (i := ((s_l24Idx p_t pn)).toNat) Bo eb109 (by rw [eA109]; rfl)
  refine SeqR.u rfl rfl (yl_storeF (off := eo109) (i := ((s_l24Idx p_t pn)).toNat) (d := 2) (dx := d_Idx) (x' := (⟨(((s_l24Own p_t).Idxs).getD (((s_l24Idx p_t pn)).toNat) d_Idx).Name, (((s_l24Own p_t).Idxs).getD (((s_l24Idx p_t pn)).toNat) d_Idx).Col, p_stage⟩ : DIdx)) (vs := [.int .i64 (p_stage)]) ty3 rfl q108 eA109 rfl (hp96.nt 5 15 rfl rfl rfl) rfl rfl rfl Bo (nb rfl) rfl rfl ?_)
  intro w111 hB112 hO113
  have hO113z := hO113.size
  refine dn (CW.sub (sC 6 (hp96.old 6 _ rfl rfl) (sC 7 (hp96.old 7 _ rfl rfl) (Sub.nil _))) (cR (sd rfl (yl_loadN ty26 rfl rfl ((Box.only (Box.ex hB43 hE99) hO113 oM).cells (n := 3) rfl) rfl (SeqR.u rfl rfl (yl_store (vs := [.string (bs ((s_l24Own p_t).Name)), .slice A27 (((s_l24Own p_t).Cols).length) c27, .slice A28 (((s_l24Own p_t).Idxs).length) c28]) ty26 rfl rfl rfl rfl rfl rfl (Box.only (Box.ex (Box.only (Box.ex (Box.ex hB19 hE31) hE41) hO44 oM) hE99) hO113 oM) (nb rfl) ?_))))))
  intro w121 hB122 hO123
  have hB122 : Box w121 b15 26 [.string (bs ((s_l24Own p_t).Name)), .slice A27 (((s_l24Own p_t).Cols).length) c27, .slice A28 (((s_l24Own p_t).Idxs).length) c28] := hB122
  have hO123z := hO123.size
  refine dn (CW.ret (rr rfl (.cons ⟨_, rfl, run_loadN ty26 (cs := [.string (bs ((s_l24Own p_t).Name)), .slice A27 (((s_l24Own p_t).Cols).length) c27, .slice A28 (((s_l24Own p_t).Idxs).length) c28]) rfl (hB122.cells (n := 3) rfl)⟩ .nil) ?_))
  have hM124 : (s_l24Set p_t pn p_stage) = ((⟨(s_l24Own p_t).Name, (s_l24Own p_t).Cols, (((s_l24Own p_t).Idxs).set (((s_l24Idx p_t pn)).toNat) (⟨(((s_l24Own p_t).Idxs).getD (((s_l24Idx p_t pn)).toNat) d_Idx).Name, (((s_l24Own p_t).Idxs).getD (((s_l24Idx p_t pn)).toNat) d_Idx).Col, p_stage⟩ : DIdx))⟩ : DTable)) := by simp only [s_l24Set, cL]
  have q130 := OwnL.only gI hB112 hO123 oM
  have hfx131 := (q130).1
  have hol132 : ((s_l24Own p_t).Idxs).length ≤ 2147483648 := ho29.2.2.1
  rw [hM124]
  exact ⟨A27, c27, lo27, hi27, A28, c28, lo28, hi28, (by first | rfl | (simp only [List.length_replicate, List.length_set]; done) | (simp only [List.length_replicate, List.length_set]; rfl) | rw [hfx131]), (OwnL.only gS (OwnL.only gS (OwnL.ex gS (OwnL.only gS (OwnL.ex gS h27 hE41) hO44 oM) hE99) hO113 oM) hO123 oM), (OwnL.fix q130), ⟨ho29.1, ho29.2.1, (okL.mk (xs := (((s_l24Own p_t).Idxs).set (((s_l24Idx p_t pn)).toNat) (⟨(((s_l24Own p_t).Idxs).getD (((s_l24Idx p_t pn)).toNat) d_Idx).Name, (((s_l24Own p_t).Idxs).getD (((s_l24Idx p_t pn)).toNat) d_Idx).Col, p_stage⟩ : DIdx))) Bl (okE.set (ho29.2.2).2 (okL.getD ho29.2.2 ok_d_Idx _)))⟩, oM, oM, oM, (Below.only (Below.only (Ex.trans (Below.only (Ex.trans (Ex.trans (Ex.trans (Ex.trans (Ex.refl w) hE14) hE20) hE31) hE41) hO44 oM) hE99) hO113 oM) hO123 oM)⟩
theorem c_s_l24Way {A1 : Option Addr} {c1 : Nat} {A2 : Option Addr} {c2 : Nat} {w : World} (p_t : DTable) (pn : Str) (p_stage : Int) (h1 : RdS w (Iv 0 w.heap.size) (RF e_Str) 1 A1 p_t.Cols.length c1 p_t.Cols) (h2 : RdS w (Iv 0 w.heap.size) (RF e_Idx) 3 A2 p_t.Idxs.length c2 p_t.Idxs) (o3 : ok_Table p_t) (o4 : okS pn) (pre0 : (0 ≤ s_l24Idx p_t pn ∧ s_l24Idx p_t pn < (p_t.Idxs.length : Int))) (pre1 : (0 ≤ (p_t.Idxs.getD (s_l24Idx p_t pn).toNat d_Idx).Stage ∧ (p_t.Idxs.getD (s_l24Idx p_t pn).toNat d_Idx).Stage ≤ 3)) (pre2 : (0 ≤ p_stage ∧ p_stage ≤ 3)) : Cal Tryz.prog 30 #[.agg #[.string (bs (p_t.Name)), .slice A1 p_t.Cols.length c1, .slice A2 p_t.Idxs.length c2], .string (bs (pn)), .int .i64 (p_stage)] w fun v w' => ∃ A_1 c_1 lo_1 hi_1, v = .slice A_1 ((s_l24Way p_t pn p_stage).length) c_1 ∧ OwnD w' lo_1 hi_1 26 3 RO_Table A_1 ((s_l24Way p_t pn p_stage).length) c_1 (s_l24Way p_t pn p_stage) ∧ (okL ok_Table) (s_l24Way p_t pn p_stage) ∧ (w.heap.size ≤ lo_1 ∧ lo_1 ≤ hi_1 ∧ hi_1 ≤ w'.heap.size) ∧ Ex w w' := by
 have hol5 : p_t.Name.length ≤ 1073741824 := o3.1
 have hol6 := o3.2.1.1
 have hol7 := o3.2.2.1
 have hol8 : pn.length ≤ 1073741824 := o4
 refine Cal.of func30 rfl ntmps30 rfl (cR (sd rfl (yl_box rfl rfl rfl ?_)))
 intro b9 w10 hs11 hz12 hB13 hE14
 refine sA rfl (dn (cR (sd rfl (yl_loadN ty26 rfl rfl (hB13.cells (n := 3) rfl) rfl ?_))))
 have q15 := RdS.ex gS h1 hE14
 have q16 := RdS.ex gI h2 hE14
 refine sd rfl (yC en49 rfl (oc rfl oz) (Cal.mono (c_s_l24Own p_t (RdS.up q15 gS) (RdS.up q16 gI) o3) ?_))
 rintro v21 w17 ⟨A18, c18, lo18, hi18, A19, c19, lo19, hi19, rfl, h18, h19, ho20, hrn23, hrn24, hrn25, hE22⟩
 have hE22z := Ex.size hE22
 have hrf26 := rf_l24Own p_t
 refine sd rfl (yl_buildSlice (cs := [.string (bs ((s_l24Own p_t).Name)), .slice A18 (((s_l24Own p_t).Cols).length) c18, .slice A19 (((s_l24Own p_t).Idxs).length) c19]) un29 ty26 (by decide) rfl (oc rfl oz) (by kernel_rfl) ?_)
 intro b27 w28 hs29 hz30 hB31 hE32
 have hO33 : OwnD w28 w10.heap.size (b27 + 1) 26 3 RO_Table (some ⟨b27, 0, none⟩) 1 1 ([(s_l24Own p_t)] : List DTable) := OwnD.of_box (b := b27) (xs := ([(s_l24Own p_t)] : List DTable)) (cells := [[.string (bs ((s_l24Own p_t).Name)), .slice A18 (((s_l24Own p_t).Cols).length) c18, .slice A19 (((s_l24Own p_t).Idxs).length) c19]]) (by rw [List.flatten_singleton]; exact hB31) oM (Nat.lt_succ_self _) (.cons (l := w10.heap.size) (h := b27) (Nat.le_refl _) oM rfl (fun k hk => by cases hk; exact .inr (Nat.le_refl _)) (mkO_Table (l := w10.heap.size) (h := b27) (OwnL.ex gS h18 hE32) (OwnL.ex gI h19 hE32) oM oM oM) (.nil (Nat.le_succ _))) (nb rfl)
 refine sA rfl (dn (CW.seq ?_))
 have q35 := Box.ex (Box.ex hB13 hE22) hE32
 have q37 := RdS.ex gS (RdS.ex gS q15 hE22) hE32
 have q39 := RdS.ex gI (RdS.ex gI q16 hE22) hE32
 have hrf41 := rf_s_l24Idx p_t pn
 refine drI 5 [.pointer (some ⟨b9, 0 + 2, none⟩), .slice A2 p_t.Idxs.length c2, .agg #[.string (bs (p_t.Name)), .slice A1 p_t.Cols.length c1, .slice A2 p_t.Idxs.length c2], .string (bs (pn)), .int .i64 ((s_l24Idx p_t pn))] Tryz.follows rfl ⟨?_, ?_, ?_, ?_, ?_, trivial⟩ ?_
 ·exact oI rfl fun h => yl_fieldAddr fd26_2 rfl (h.old 3 _ rfl rfl) kI
 ·exact oI rfl fun h => yl_load1 ty24 rfl (h.dt 0 12 rfl rfl rfl) (((Box.ex q35 h.ex).cell 2).trans rfl) kI
 ·exact oI rfl fun h => yl_loadN ty26 rfl (h.old 3 _ rfl rfl) ((Box.ex q35 h.ex).cells (n := 3) rfl) rfl kI
 ·exact oI rfl fun h => yM rfl (h.old 1 _ rfl rfl) kI
 ·intro L64 w65 hi66
  have hE67 := hi66.ex
  exact OpR.op' rfl (yC en34 rfl (oc (hi66.dt 2 14 rfl rfl rfl) (oc (hi66.dt 3 15 rfl rfl rfl) oz)) (Cal.mono (c_s_l24Idx p_t pn (RdS.up (RdS.ex gS q37 hE67) gS) (RdS.up (RdS.ex gI q39 hE67) gI) o3 o4) fun _ _ h => h))
 ·intro fl78 fh79 L75 w76 hp77
  have hE80 := hp77.ex
  have hE80z := Ex.size hE80
  have q87 := RdS.ex gI q39 hE80
  obtain ⟨eb88, eo88, _, eA88, _, ebl88, _, eR88, eC88⟩ := RdS.atD q87 d_Idx (i := ((s_l24Idx p_t pn)).toNat) Bo
  obtain rfl := eR88
  have eC88 : Cells w76 eb88 (eo88 + (((s_l24Idx p_t pn)).toNat) * 3) [.string (bs ((p_t.Idxs.getD (((s_l24Idx p_t pn)).toNat) d_Idx).Name)), .int .i64 ((p_t.Idxs.getD (((s_l24Idx p_t pn)).toNat) d_Idx).Col), .int .i64 ((p_t.Idxs.getD (((s_l24Idx p_t pn)).toNat) d_Idx).Stage)] := eC88
  refine sd rfl (yl_indexAddr un24 ty35 rfl (hp77.nt 1 13 rfl rfl rfl) (hp77.nt 4 16 rfl rfl rfl) eA88 Bo Bo (sd rfl (yl_fieldAddr fd35_2 rfl rfl (sd rfl (yl_load1 ty3 rfl rfl (eC88 2 _ rfl) (sA rfl (dn (CW.sub (sC 1 (hp77.old 1 _ rfl rfl) (sC 2 (hp77.old 2 _ rfl rfl) (sC 3 (hp77.old 3 _ rfl rfl) (sC 7 (hp77.old 7 _ rfl rfl) (sC 8 rfl (Sub.nil _)))))) (CW.seq (CW.block ?_))))))))))
  refine CW.loop (fun m145 L146 w147 => ∃ (x140 : List DTable) (x144 : Int) (A141 : Option Addr) (c142 : Nat) (u143 : Nat), ((p_stage - x144).toNat + (x144 - p_stage).toNat) < m145 ∧ w76.heap.size ≤ w147.heap.size ∧ lkp L146 1 = some (.string (bs (pn))) ∧ lkp L146 2 = some (.int .i64 (p_stage)) ∧ lkp L146 3 = some (.pointer (some ⟨b9, 0, none⟩)) ∧ lkp L146 7 = some (.slice A141 x140.length c142) ∧ lkp L146 8 = some (.int .i64 (x144)) ∧ Box w147 b9 26 [.string (bs (p_t.Name)), .slice A1 p_t.Cols.length c1, .slice A2 p_t.Idxs.length c2] ∧ RdS w147 (Iv 0 w.heap.size) (RF e_Str) 1 A1 p_t.Cols.length c1 p_t.Cols ∧ RdS w147 (Iv 0 w.heap.size) (RF e_Idx) 3 A2 p_t.Idxs.length c2 p_t.Idxs ∧ OwnD w147 w10.heap.size u143 26 3 RO_Table A141 x140.length c142 x140 ∧ Ex w w147 ∧ (w10.heap.size ≤ u143 ∧ u143 ≤ w147.heap.size) ∧ x140.length + 1 * ((p_stage - x144).toNat + (x144 - p_stage).toNat) ≤ 1 + 1 * ((p_stage - (p_t.Idxs.getD (((s_l24Idx p_t pn)).toNat) d_Idx).Stage).toNat + ((p_t.Idxs.getD (((s_l24Idx p_t pn)).toNat) d_Idx).Stage - p_stage).toNat) ∧ (∀ y ∈ x140, ok_Table y) ∧ 0 ≤ x144 ∧ x144 ≤ 3 ∧ loopW (B_s_l24Way_0 p_t pn p_stage) m145 (x140, x144) = loopW (B_s_l24Way_0 p_t pn p_stage) (((p_stage - (p_t.Idxs.getD (((s_l24Idx p_t pn)).toNat) d_Idx).Stage).toNat + ((p_t.Idxs.getD (((s_l24Idx p_t pn)).toNat) d_Idx).Stage - p_stage).toNat) + 1) (([(s_l24Own p_t)] : List DTable), (p_t.Idxs.getD (((s_l24Idx p_t pn)).toNat) d_Idx).Stage)) (((p_stage - (p_t.Idxs.getD (((s_l24Idx p_t pn)).toNat) d_Idx).Stage).toNat + ((p_t.Idxs.getD (((s_l24Idx p_t pn)).toNat) d_Idx).Stage - p_stage).toNat) + 1) ?_ ?_
  ·exact ⟨([(s_l24Own p_t)] : List DTable), (p_t.Idxs.getD (((s_l24Idx p_t pn)).toNat) d_Idx).Stage, (some ⟨b27, 0, none⟩), 1, (b27 + 1), Nat.lt_succ_self _, Nat.le_refl _, rfl, rfl, rfl, rfl, rfl, (Box.ex q35 hE80), (RdS.ex gS q37 hE80), q87, (OwnD.ex goodO_Table hO33 hE80), (Ex.trans (Ex.trans (Ex.trans (Ex.trans (Ex.refl w) hE14) hE22) hE32) hE80), oM, (by first | (simp; done) | (first | omega | (simp only [lN, toS_length]; omega))), ((okL.mk (nb rfl) (okE.cons ho20 okE.nil))).2, Bo, Bo, rfl⟩
  ·rintro m155 L156 w157 ⟨x140, x144, A141, c142, u143, hk158, hsz160, hl161, hl162, hl163, hl164, hl165, hf166, hf167, hf168, hf169, hf170, hu171, hln172, hok173, hv174, hv175, hI159⟩
   refine CW.sub (Sub.cons hl161 (Sub.cons hl162 (Sub.cons hl163 (Sub.cons hl164 (Sub.cons hl165 (Sub.nil _)))))) ?_
   have hf166z := Box.lt hf166
   have hf170z := Ex.size hf170
   refine CW.seq (cR (sM rfl (sM rfl (sd rfl (yl_neq rfl rfl rfl (dn (bcase (decide (x144 = p_stage)) (fun hb176 => ?_) (fun hb176 => ?_))))))))
   ·have hb176p := dec_t hb176
    refine CW.cond_f rfl (not_t hb176) (CW.exit (tx (tx ?_)))
    have hB178 : B_s_l24Way_0 p_t pn p_stage (x140, x144) = .brk (x140, x144) := by simp only [B_s_l24Way_0, hb176, cL]
    have hL177 : loopW (B_s_l24Way_0 p_t pn p_stage) (((p_stage - (p_t.Idxs.getD (((s_l24Idx p_t pn)).toNat) d_Idx).Stage).toNat + ((p_t.Idxs.getD (((s_l24Idx p_t pn)).toNat) d_Idx).Stage - p_stage).toNat) + 1) (([(s_l24Own p_t)] : List DTable), (p_t.Idxs.getD (((s_l24Idx p_t pn)).toNat) d_Idx).Stage) = .done (x140, x144) := hI159.symm.trans (loopW.brk hk158 hB178)
    refine bx (tn (cR (sM rfl (sA rfl (dn (CW.ret ?_))))))
    refine rr rfl (.cons rfl .nil) ?_
    have hM179 : (s_l24Way p_t pn p_stage) = (x140) := by simp only [s_l24Way, hb176, hL177, cL]
    rw [hM179]
    exact ⟨A141, c142, w10.heap.size, u143, rfl, hf169, (okL.mk (xs := x140) Bl hok173), oM, hf170⟩
   ·have hb176p := dec_f hb176
    refine CW.cond_t rfl (not_f hb176) (CW.skip (tn (CW.block (CW.seq (cR (sM rfl (sM rfl ?_)))))))
    refine sd rfl (yl_lss rfl rfl rfl (dn (bcase (decide (x144 < p_stage)) (fun hb180 => ?_) (fun hb180 => ?_))))
    ·have hb180p := dec_t hb180
     refine CW.cond_t rfl hb180 (CW.region (sM rfl (sd rfl (yl_add rfl rfl rfl (sA rfl (dn (CW.region (sM rfl ?_))))))))
     refine sd rfl (yl_loadN ty26 rfl rfl (hf166.cells (n := 3) rfl) rfl (sM rfl (sM rfl (sd rfl (yC en32 rfl (oc rfl (oc rfl (oc rfl oz))) (Cal.mono (c_s_l24Set p_t pn (IntKind.wrap .i64 (x144 + 1)) (RdS.up hf167 gS) (RdS.up hf168 gI) o3 o4 Bo) ?_))))))
     rintro v185 w181 ⟨A182, c182, lo182, hi182, A183, c183, lo183, hi183, rfl, h182, h183, ho184, hrn187, hrn188, hrn189, hE186⟩
     have hE186z := Ex.size hE186
     refine sd rfl (yl_buildSlice (cs := [.string (bs ((s_l24Set p_t pn (IntKind.wrap .i64 (x144 + 1))).Name)), .slice A182 (((s_l24Set p_t pn (IntKind.wrap .i64 (x144 + 1))).Cols).length) c182, .slice A183 (((s_l24Set p_t pn (IntKind.wrap .i64 (x144 + 1))).Idxs).length) c183]) un29 ty26 (by decide) rfl (oc rfl oz) (by kernel_rfl) ?_)
     intro b190 w191 hs192 hz193 hB194 hE195
     have hO196 : OwnD w191 w157.heap.size (b190 + 1) 26 3 RO_Table (some ⟨b190, 0, none⟩) 1 1 ([(s_l24Set p_t pn (IntKind.wrap .i64 (x144 + 1)))] : List DTable) := OwnD.of_box (b := b190) (xs := ([(s_l24Set p_t pn (IntKind.wrap .i64 (x144 + 1)))] : List DTable)) (cells := [[.string (bs ((s_l24Set p_t pn (IntKind.wrap .i64 (x144 + 1))).Name)), .slice A182 (((s_l24Set p_t pn (IntKind.wrap .i64 (x144 + 1))).Cols).length) c182, .slice A183 (((s_l24Set p_t pn (IntKind.wrap .i64 (x144 + 1))).Idxs).length) c183]]) (by rw [List.flatten_singleton]; exact hB194) oM (Nat.lt_succ_self _) (.cons (l := w157.heap.size) (h := b190) (Nat.le_refl _) oM rfl (fun k hk => by cases hk; exact .inr (Nat.le_refl _)) (mkO_Table (l := w157.heap.size) (h := b190) (OwnL.ex gS h182 hE195) (OwnL.ex gI h183 hE195) oM oM oM) (.nil (Nat.le_succ _))) (nb rfl)
     refine sd rfl (yl_appendD (xs := x140) (ys := ([(s_l24Set p_t pn (IntKind.wrap .i64 (x144 + 1)))] : List DTable)) goodO_Table un29 ty26 rfl (nb rfl) rfl rfl rfl (OwnD.ex goodO_Table (OwnD.ex goodO_Table hf169 hE186) hE195) hO196 Bl Bl oM oM oM oM ?_)
     intro A199 c200 w201 row202 hO203 hG204 hrg205
     have hG204z := hG204.size
     refine sA rfl (SeqR.done (bn (tn ?_)))
     have hB206 : B_s_l24Way_0 p_t pn p_stage (x140, x144) = .cont ((x140 ++ ([(s_l24Set p_t pn (IntKind.wrap .i64 (x144 + 1)))] : List DTable)), IntKind.wrap .i64 (x144 + 1)) := by simp only [B_s_l24Way_0, hb176, hb180, cL]
     have hmu219 : ((p_stage - IntKind.wrap .i64 (x144 + 1)).toNat + (IntKind.wrap .i64 (x144 + 1) - p_stage).toNat) < ((p_stage - x144).toNat + (x144 - p_stage).toNat) := by first | omega | assumption | (simp only [wI] at *; omega)
     exact ⟨m155 - 1, oM, (x140 ++ ([(s_l24Set p_t pn (IntKind.wrap .i64 (x144 + 1)))] : List DTable)), IntKind.wrap .i64 (x144 + 1), A199, c200, w201.heap.size, oM, oM, rfl, rfl, rfl, rfl, rfl, (Box.grown (Box.ex (Box.ex hf166 hE186) hE195) hG204 (fun k hk => by have := hrg205 k hk; omega)), (RdS.grown gS (RdS.ex gS (RdS.ex gS hf167 hE186) hE195) hG204 (fun k hk => by have := hrg205 k hk; simp only [Iv]; omega)), (RdS.grown gI (RdS.ex gI (RdS.ex gI hf168 hE186) hE195) hG204 (fun k hk => by have := hrg205 k hk; simp only [Iv]; omega)), hO203, (Below.grown (Ex.trans (Ex.trans hf170 hE186) hE195) hG204 oM (fun k hk => by have := hrg205 k hk; omega)), oM, Bl, (okE.append hok173 ((okL.mk (nb rfl) (okE.cons ho184 okE.nil))).2), Bo, Bo, (loopW.cont hk158 hB206).symm.trans hI159⟩
    ·have hb180p := dec_f hb180
     refine CW.cond_f rfl hb180 (CW.region (sM rfl (sd rfl (yl_sub rfl rfl rfl (sA rfl (dn (CW.region (sM rfl ?_))))))))
     refine sd rfl (yl_loadN ty26 rfl rfl (hf166.cells (n := 3) rfl) rfl (sM rfl (sM rfl (sd rfl (yC en32 rfl (oc rfl (oc rfl (oc rfl oz))) (Cal.mono (c_s_l24Set p_t pn (IntKind.wrap .i64 (x144 - 1)) (RdS.up hf167 gS) (RdS.up hf168 gI) o3 o4 Bo) ?_))))))
     rintro v224 w220 ⟨A221, c221, lo221, hi221, A222, c222, lo222, hi222, rfl, h221, h222, ho223, hrn226, hrn227, hrn228, hE225⟩
     have hE225z := Ex.size hE225
     refine sd rfl (yl_buildSlice (cs := [.string (bs ((s_l24Set p_t pn (IntKind.wrap .i64 (x144 - 1))).Name)), .slice A221 (((s_l24Set p_t pn (IntKind.wrap .i64 (x144 - 1))).Cols).length) c221, .slice A222 (((s_l24Set p_t pn (IntKind.wrap .i64 (x144 - 1))).Idxs).length) c222]) un29 ty26 (by decide) rfl (oc rfl oz) (by kernel_rfl) ?_)
     intro b229 w230 hs231 hz232 hB233 hE234
     have hO235 : OwnD w230 w157.heap.size (b229 + 1) 26 3 RO_Table (some ⟨b229, 0, none⟩) 1 1 ([(s_l24Set p_t pn (IntKind.wrap .i64 (x144 - 1)))] : List DTable) := OwnD.of_box (b := b229) (xs := ([(s_l24Set p_t pn (IntKind.wrap .i64 (x144 - 1)))] : List DTable)) (cells := [[.string (bs ((s_l24Set p_t pn (IntKind.wrap .i64 (x144 - 1))).Name)), .slice A221 (((s_l24Set p_t pn (IntKind.wrap .i64 (x144 - 1))).Cols).length) c221, .slice A222 (((s_l24Set p_t pn (IntKind.wrap .i64 (x144 - 1))).Idxs).length) c222]]) (by rw [List.flatten_singleton]; exact hB233) oM (Nat.lt_succ_self _) (.cons (l := w157.heap.size) (h := b229) (Nat.le_refl _) oM rfl (fun k hk => by cases hk; exact .inr (Nat.le_refl _)) (mkO_Table (l := w157.heap.size) (h := b229) (OwnL.ex gS h221 hE234) (OwnL.ex gI h222 hE234) oM oM oM) (.nil (Nat.le_succ _))) (nb rfl)
     refine sd rfl (yl_appendD (xs := x140) (ys := ([(s_l24Set p_t pn (IntKind.wrap .i64 (x144 - 1)))] : List DTable)) goodO_Table un29 ty26 rfl (nb rfl) rfl rfl rfl (OwnD.ex goodO_Table (OwnD.ex goodO_Table hf169 hE225) hE234) hO235 Bl Bl oM oM oM oM ?_)
     intro A238 c239 w240 row241 hO242 hG243 hrg244
     have hG243z := hG243.size
     refine sA rfl (SeqR.done (bn (tn ?_)))
     have hB245 : B_s_l24Way_0 p_t pn p_stage (x140, x144) = .cont ((x140 ++ ([(s_l24Set p_t pn (IntKind.wrap .i64 (x144 - 1)))] : List DTable)), IntKind.wrap .i64 (x144 - 1)) := by simp only [B_s_l24Way_0, hb176, hb180, cL]
     have hmu258 : ((p_stage - IntKind.wrap .i64 (x144 - 1)).toNat + (IntKind.wrap .i64 (x144 - 1) - p_stage).toNat) < ((p_stage - x144).toNat + (x144 - p_stage).toNat) := by first | omega | assumption | (simp only [wI] at *; omega)
     exact ⟨m155 - 1, oM, (x140 ++ ([(s_l24Set p_t pn (IntKind.wrap .i64 (x144 - 1)))] : List DTable)), IntKind.wrap .i64 (x144 - 1), A238, c239, w240.heap.size, oM, oM, rfl, rfl, rfl, rfl, rfl, (Box.grown (Box.ex (Box.ex hf166 hE225) hE234) hG243 (fun k hk => by have := hrg244 k hk; omega)), (RdS.grown gS (RdS.ex gS (RdS.ex gS hf167 hE225) hE234) hG243 (fun k hk => by have := hrg244 k hk; simp only [Iv]; omega)), (RdS.grown gI (RdS.ex gI (RdS.ex gI hf168 hE225) hE234) hG243 (fun k hk => by have := hrg244 k hk; simp only [Iv]; omega)), hO242, (Below.grown (Ex.trans (Ex.trans hf170 hE225) hE234) hG243 oM (fun k hk => by have := hrg244 k hk; omega)), oM, Bl, (okE.append hok173 ((okL.mk (nb rfl) (okE.cons ho223 okE.nil))).2), Bo, Bo, (loopW.cont hk158 hB245).symm.trans hI159⟩
theorem c_s_WayTo {A1 : Option Addr} {c1 : Nat} {A2 : Option Addr} {c2 : Nat} {w : World} (p_t : DTable) (pn : Str) (p_stage : Int) (h1 : RdS w (Iv 0 w.heap.size) (RF e_Str) 1 A1 p_t.Cols.length c1 p_t.Cols) (h2 : RdS w (Iv 0 w.heap.size) (RF e_Idx) 3 A2 p_t.Idxs.length c2 p_t.Idxs) (o3 : ok_Table p_t) (o4 : okS pn) : Cal Tryz.prog 6 #[.agg #[.string (bs (p_t.Name)), .slice A1 p_t.Cols.length c1, .slice A2 p_t.Idxs.length c2], .string (bs (pn)), .int .i64 (p_stage)] w fun v w' => ∃ A_1 c_1 lo_1 hi_1, v = .tuple #[.slice A_1 (((s_WayTo p_t pn p_stage).1).length) c_1, .bool ((s_WayTo p_t pn p_stage).2)] ∧ OwnD w' lo_1 hi_1 26 3 RO_Table A_1 (((s_WayTo p_t pn p_stage).1).length) c_1 ((s_WayTo p_t pn p_stage).1) ∧ (okL ok_Table) ((s_WayTo p_t pn p_stage).1) ∧ (w.heap.size ≤ lo_1 ∧ lo_1 ≤ hi_1 ∧ hi_1 ≤ w'.heap.size) ∧ Ex w w' := by
 have hol5 : p_t.Name.length ≤ 1073741824 := o3.1
 have hol6 := o3.2.1.1
 have hol7 := o3.2.2.1
 have hol8 : pn.length ≤ 1073741824 := o4
 refine Cal.of func6 rfl ntmps6 rfl (cR (sd rfl (yl_box rfl rfl rfl ?_)))
 intro b9 w10 hs11 hz12 hB13 hE14
 refine sA rfl (sA rfl (dn (CW.seq (cR (sd rfl (yl_loadN ty26 rfl rfl (hB13.cells (n := 3) rfl) rfl (sM rfl ?_)))))))
 refine sM rfl ?_
 have q15 := RdS.ex gS h1 hE14
 have q16 := RdS.ex gI h2 hE14
 refine sd rfl (yC en29 rfl (oc rfl (oc rfl (oc rfl oz))) (Cal.mono (c_s_l24Asked p_t pn p_stage (RdS.up q15 gS) (RdS.up q16 gI) o3 o4) ?_))
 rintro v18 w17 ⟨rfl, hE19⟩
 have hE19z := Ex.size hE19
 refine sd rfl (yl_not rfl rfl (dn (bcase (s_l24Asked p_t pn p_stage) (fun hb20 => ?_) (fun hb20 => ?_))))
 ·obtain ⟨hb20p0, hb20p1, hb20p2⟩ := f_s_l24Asked hb20
  refine CW.cond_f rfl (not_t hb20) (CW.skip (tn (cR (sd rfl (yl_loadN ty26 rfl rfl ((Box.ex hB13 hE19).cells (n := 3) rfl) rfl (sM rfl (sM rfl (sd rfl (yC en30 rfl (oc rfl (oc rfl (oc rfl oz))) (Cal.mono (c_s_l24Way p_t pn p_stage (RdS.up (RdS.ex gS q15 hE19) gS) (RdS.up (RdS.ex gI q16 hE19) gI) o3 o4 Bo Bo Bo) ?_))))))))))
  rintro v27 w24 ⟨A25, c25, lo25, hi25, rfl, h25, ho26, hrn29, hE28⟩
  have hE28z := Ex.size hE28
  refine sA rfl (sA rfl (dn (CW.ret (rr rfl (.cons rfl (.cons rfl .nil)) ?_))))
  have hM30 : (s_WayTo p_t pn p_stage) = (((s_l24Way p_t pn p_stage), true)) := by simp only [s_WayTo, hb20, cL]
  rw [hM30]
  exact ⟨A25, c25, lo25, hi25, rfl, h25, ho26, oM, (Ex.trans (Ex.trans (Ex.trans (Ex.refl w) hE14) hE19) hE28)⟩
 ·refine CW.cond_t rfl (not_f hb20) (cR (sA rfl (sA rfl (dn (CW.ret (tr ?_))))))
  refine rr rfl (.cons rfl (.cons rfl .nil)) ?_
  have hM34 : (s_WayTo p_t pn p_stage) = ((([] : List DTable), false)) := by simp only [s_WayTo, hb20, cL]
  rw [hM34]
  exact ⟨none, 0, w17.heap.size, w17.heap.size, rfl, (OwnD.nil _ _ _ _ _ _), (okL.nil _), oM, (Ex.trans (Ex.trans (Ex.refl w) hE14) hE19)⟩
theorem c_i_SetStage {A1 : Option Addr} {c1 : Nat} {A2 : Option Addr} {c2 : Nat} {w : World} (p_t : DTable) (pn : Str) (p_stage : Int) (h1 : RdS w (Iv 0 w.heap.size) (RF e_Str) 1 A1 p_t.Cols.length c1 p_t.Cols) (h2 : RdS w (Iv 0 w.heap.size) (RF e_Idx) 3 A2 p_t.Idxs.length c2 p_t.Idxs) (o3 : ok_Table p_t) (o4 : okS pn) : Cal Tryz.prog 7 #[.agg #[.string (bs (p_t.Name)), .slice A1 p_t.Cols.length c1, .slice A2 p_t.Idxs.length c2], .string (bs (pn)), .int .i64 (p_stage)] w fun v w' => ∃ A_1 c_1 lo_1 hi_1 A_2 c_2 lo_2 hi_2, v = .tuple #[.agg #[.string (bs ((i_SetStage p_t pn p_stage).1.Name)), .slice A_1 (((i_SetStage p_t pn p_stage).1.Cols).length) c_1, .slice A_2 (((i_SetStage p_t pn p_stage).1.Idxs).length) c_2], .bool ((i_SetStage p_t pn p_stage).2)] ∧ OwnL w' lo_1 hi_1 9 1 (RF e_Str) A_1 (((i_SetStage p_t pn p_stage).1.Cols).length) c_1 ((i_SetStage p_t pn p_stage).1.Cols) ∧ OwnL w' lo_2 hi_2 35 3 (RF e_Idx) A_2 (((i_SetStage p_t pn p_stage).1.Idxs).length) c_2 ((i_SetStage p_t pn p_stage).1.Idxs) ∧ ok_Table ((i_SetStage p_t pn p_stage).1) ∧ (w.heap.size ≤ lo_1 ∧ lo_1 ≤ hi_1 ∧ hi_1 ≤ w'.heap.size) ∧ (w.heap.size ≤ lo_2 ∧ lo_2 ≤ hi_2 ∧ hi_2 ≤ w'.heap.size) ∧ (hi_1 ≤ lo_2 ∨ hi_2 ≤ lo_1) ∧ Ex w w' := by
 have hol5 : p_t.Name.length ≤ 1073741824 := o3.1
 have hol6 := o3.2.1.1
 have hol7 := o3.2.2.1
 have hol8 : pn.length ≤ 1073741824 := o4
 refine Cal.of func7 rfl ntmps7 rfl (cR (sd rfl (yl_box rfl rfl rfl ?_)))
 intro b9 w10 hs11 hz12 hB13 hE14
 refine sd rfl (yB ty26 (cs := [.string (bs (([] : Str))), .slice none 0 0, .slice none 0 0]) rfl rfl ?_)
 intro b15 w16 hs17 hz18 hB19 hE20
 refine sA rfl (dn (CW.seq (cR ?_)))
 have q21 := Box.ex hB13 hE20
 refine sd rfl (yl_loadN ty26 rfl rfl (q21.cells (n := 3) rfl) rfl (sM rfl ?_))
 have q23 := RdS.ex gS (RdS.ex gS h1 hE14) hE20
 have q25 := RdS.ex gI (RdS.ex gI h2 hE14) hE20
 refine sd rfl (yC en26 rfl (oc rfl (oc rfl oz)) (Cal.mono (c_i_hasIdx p_t pn (RdS.up q23 gS) (RdS.up q25 gI) o3 o4) ?_))
 rintro v27 w26 ⟨rfl, hE28⟩
 have hE28z := Ex.size hE28
 refine sd rfl (yl_not rfl rfl (sM rfl (bcase (i_hasIdx p_t pn) (fun hb29 => ?_) (fun hb29 => ?_))))
 ·obtain ⟨hb29p0, hb29p1, hb29p2⟩ := f_i_hasIdx hb29
  refine sy rfl rfl (not_t hb29) (yM rfl rfl (sy rfl rfl (not_t hb29) (yC en27 rfl (oc rfl oz) (Cal.mono (c_i_isStage p_stage) ?_))))
  rintro v31 w30 ⟨rfl, hE32⟩
  have hE32z := Ex.size hE32
  refine sy rfl rfl (not_t hb29) (yl_not rfl rfl (sd rfl (yl_pick_f rfl rfl (not_t hb29) rfl (dn (bcase (i_isStage p_stage) (fun hb33 => ?_) (fun hb33 => ?_))))))
  ·have hb33p := f_i_isStage hb33
   refine CW.cond_f rfl (not_t hb33) (CW.skip (tn (cR (sd rfl (yl_loadN ty26 rfl rfl ((Box.ex (Box.ex q21 hE28) hE32).cells (n := 3) rfl) rfl (sM rfl (sM rfl (sd rfl (yC en31 rfl (oc rfl (oc rfl (oc rfl oz))) (Cal.mono (c_i_Table_withStage p_t pn p_stage (RdS.up (RdS.ex gS (RdS.ex gS q23 hE28) hE32) gS) (RdS.up (RdS.ex gI (RdS.ex gI q25 hE28) hE32) gI) o3 o4 Bo) ?_))))))))))
   rintro v44 w40 ⟨A41, c41, lo41, hi41, A42, c42, lo42, hi42, rfl, h41, h42, ho43, hrn46, hrn47, hrn48, hE45⟩
   have hE45z := Ex.size hE45
   refine SeqR.u rfl rfl (yl_store (vs := [.string (bs ((i_Table_withStage p_t pn p_stage).Name)), .slice A41 (((i_Table_withStage p_t pn p_stage).Cols).length) c41, .slice A42 (((i_Table_withStage p_t pn p_stage).Idxs).length) c42]) ty26 rfl rfl rfl rfl rfl rfl (Box.ex (Box.ex (Box.ex hB19 hE28) hE32) hE45) (nb rfl) ?_)
   intro w52 hB53 hO54
   have hB53 : Box w52 b15 26 [.string (bs ((i_Table_withStage p_t pn p_stage).Name)), .slice A41 (((i_Table_withStage p_t pn p_stage).Cols).length) c41, .slice A42 (((i_Table_withStage p_t pn p_stage).Idxs).length) c42] := hB53
   have hO54z := hO54.size
   refine sA rfl (dn (CW.ret (rr rfl (.cons ⟨_, rfl, run_loadN ty26 (cs := [.string (bs ((i_Table_withStage p_t pn p_stage).Name)), .slice A41 (((i_Table_withStage p_t pn p_stage).Cols).length) c41, .slice A42 (((i_Table_withStage p_t pn p_stage).Idxs).length) c42]) rfl (hB53.cells (n := 3) rfl)⟩ (.cons rfl .nil)) ?_)))
   have hM55 : (i_SetStage p_t pn p_stage) = (((i_Table_withStage p_t pn p_stage), true)) := by simp only [i_SetStage, hb29, hb33, cL]
   rw [hM55]
   exact ⟨A41, c41, lo41, hi41, A42, c42, lo42, hi42, rfl, (OwnL.only gS h41 hO54 oM), (OwnL.only gI h42 hO54 oM), ho43, oM, oM, oM, (Below.only (Ex.trans (Ex.trans (Ex.trans (Ex.trans (Ex.trans (Ex.refl w) hE14) hE20) hE28) hE32) hE45) hO54 oM)⟩
  ·refine CW.cond_t rfl (not_f hb33) (cR (sd rfl (yl_build (cs := [.string (bs (([] : Str))), .slice none 0 0, .slice none 0 0]) rfl opvs_nil (by kernel_rfl) (SeqR.u rfl rfl (yl_store (vs := [.string (bs (([] : Str))), .slice none 0 0, .slice none 0 0]) ty26 rfl rfl rfl rfl rfl rfl (Box.ex (Box.ex hB19 hE28) hE32) (nb rfl) ?_)))))
   intro w66 hB67 hO68
   have hB67 : Box w66 b15 26 [.string (bs (([] : Str))), .slice none 0 0, .slice none 0 0] := hB67
   have hO68z := hO68.size
   refine sA rfl (dn (CW.ret (tr (rr rfl (.cons ⟨_, rfl, run_loadN ty26 (cs := [.string (bs (([] : Str))), .slice none 0 0, .slice none 0 0]) rfl (hB67.cells (n := 3) rfl)⟩ (.cons rfl .nil)) ?_))))
   have hM69 : (i_SetStage p_t pn p_stage) = (((⟨([] : Str), [], []⟩ : DTable), false)) := by simp only [i_SetStage, hb29, hb33, cL]
   rw [hM69]
   exact ⟨none, 0, w66.heap.size, w66.heap.size, none, 0, w66.heap.size, w66.heap.size, rfl, (OwnL.nil _ _ _ _ _ _), (OwnL.nil _ _ _ _ _ _), ⟨(okS.lit rfl), (okL.nil _), (okL.nil _)⟩, oM, oM, oM, (Below.only (Ex.trans (Ex.trans (Ex.trans (Ex.trans (Ex.refl w) hE14) hE20) hE28) hE32) hO68 oM)⟩
 ·refine sz rfl rfl (not_f hb29) (sz rfl rfl (not_f hb29) (sz rfl rfl (not_f hb29) (sd rfl (yl_pick_t rfl rfl (not_f hb29) rfl (dn (CW.cond_t rfl rfl (cR ?_)))))))
  refine sd rfl (yl_build (cs := [.string (bs (([] : Str))), .slice none 0 0, .slice none 0 0]) rfl opvs_nil (by kernel_rfl) (SeqR.u rfl rfl (yl_store (vs := [.string (bs (([] : Str))), .slice none 0 0, .slice none 0 0]) ty26 rfl rfl rfl rfl rfl rfl (Box.ex hB19 hE28) (nb rfl) ?_)))
  intro w76 hB77 hO78
  have hB77 : Box w76 b15 26 [.string (bs (([] : Str))), .slice none 0 0, .slice none 0 0] := hB77
  have hO78z := hO78.size
  refine sA rfl (dn (CW.ret (tr (rr rfl (.cons ⟨_, rfl, run_loadN ty26 (cs := [.string (bs (([] : Str))), .slice none 0 0, .slice none 0 0]) rfl (hB77.cells (n := 3) rfl)⟩ (.cons rfl .nil)) ?_))))
  have hM79 : (i_SetStage p_t pn p_stage) = (((⟨([] : Str), [], []⟩ : DTable), false)) := by simp only [i_SetStage, hb29, cL]
  rw [hM79]
  exact ⟨none, 0, w76.heap.size, w76.heap.size, none, 0, w76.heap.size, w76.heap.size, rfl, (OwnL.nil _ _ _ _ _ _), (OwnL.nil _ _ _ _ _ _), ⟨(okS.lit rfl), (okL.nil _), (okL.nil _)⟩, oM, oM, oM, (Below.only (Ex.trans (Ex.trans (Ex.trans (Ex.refl w) hE14) hE20) hE28) hO78 oM)⟩
theorem c_s_SetStage {A1 : Option Addr} {c1 : Nat} {A2 : Option Addr} {c2 : Nat} {w : World} (p_t : DTable) (pn : Str) (p_stage : Int) (h1 : RdS w (Iv 0 w.heap.size) (RF e_Str) 1 A1 p_t.Cols.length c1 p_t.Cols) (h2 : RdS w (Iv 0 w.heap.size) (RF e_Idx) 3 A2 p_t.Idxs.length c2 p_t.Idxs) (o3 : ok_Table p_t) (o4 : okS pn) : Cal Tryz.prog 8 #[.agg #[.string (bs (p_t.Name)), .slice A1 p_t.Cols.length c1, .slice A2 p_t.Idxs.length c2], .string (bs (pn)), .int .i64 (p_stage)] w fun v w' => ∃ A_1 c_1 lo_1 hi_1 A_2 c_2 lo_2 hi_2, v = .tuple #[.agg #[.string (bs ((s_SetStage p_t pn p_stage).1.Name)), .slice A_1 (((s_SetStage p_t pn p_stage).1.Cols).length) c_1, .slice A_2 (((s_SetStage p_t pn p_stage).1.Idxs).length) c_2], .bool ((s_SetStage p_t pn p_stage).2)] ∧ OwnL w' lo_1 hi_1 9 1 (RF e_Str) A_1 (((s_SetStage p_t pn p_stage).1.Cols).length) c_1 ((s_SetStage p_t pn p_stage).1.Cols) ∧ OwnL w' lo_2 hi_2 35 3 (RF e_Idx) A_2 (((s_SetStage p_t pn p_stage).1.Idxs).length) c_2 ((s_SetStage p_t pn p_stage).1.Idxs) ∧ ok_Table ((s_SetStage p_t pn p_stage).1) ∧ (w.heap.size ≤ lo_1 ∧ lo_1 ≤ hi_1 ∧ hi_1 ≤ w'.heap.size) ∧ (w.heap.size ≤ lo_2 ∧ lo_2 ≤ hi_2 ∧ hi_2 ≤ w'.heap.size) ∧ (hi_1 ≤ lo_2 ∨ hi_2 ≤ lo_1) ∧ Ex w w' := by
 have hol5 : p_t.Name.length ≤ 1073741824 := o3.1
 have hol6 := o3.2.1.1
 have hol7 := o3.2.2.1
 have hol8 : pn.length ≤ 1073741824 := o4
 refine Cal.of func8 rfl ntmps8 rfl (cR (sd rfl (yl_box rfl rfl rfl ?_)))
 intro b9 w10 hs11 hz12 hB13 hE14
 refine sd rfl (yB ty26 (cs := [.string (bs (([] : Str))), .slice none 0 0, .slice none 0 0]) rfl rfl ?_)
 intro b15 w16 hs17 hz18 hB19 hE20
 refine sA rfl (dn (CW.seq (cR ?_)))
 have q21 := Box.ex hB13 hE20
 refine sd rfl (yl_loadN ty26 rfl rfl (q21.cells (n := 3) rfl) rfl (sM rfl (sM rfl ?_)))
 have q23 := RdS.ex gS (RdS.ex gS h1 hE14) hE20
 have q25 := RdS.ex gI (RdS.ex gI h2 hE14) hE20
 refine sd rfl (yC en29 rfl (oc rfl (oc rfl (oc rfl oz))) (Cal.mono (c_s_l24Asked p_t pn p_stage (RdS.up q23 gS) (RdS.up q25 gI) o3 o4) ?_))
 rintro v27 w26 ⟨rfl, hE28⟩
 have hE28z := Ex.size hE28
 refine sd rfl (yl_not rfl rfl (dn (bcase (s_l24Asked p_t pn p_stage) (fun hb29 => ?_) (fun hb29 => ?_))))
 ·obtain ⟨hb29p0, hb29p1, hb29p2⟩ := f_s_l24Asked hb29
  refine CW.cond_f rfl (not_t hb29) (CW.skip (tn (cR (sd rfl (yl_loadN ty26 rfl rfl ((Box.ex q21 hE28).cells (n := 3) rfl) rfl (sM rfl (sM rfl (sd rfl (yC en32 rfl (oc rfl (oc rfl (oc rfl oz))) (Cal.mono (c_s_l24Set p_t pn p_stage (RdS.up (RdS.ex gS q23 hE28) gS) (RdS.up (RdS.ex gI q25 hE28) gI) o3 o4 Bo) ?_))))))))))
  rintro v37 w33 ⟨A34, c34, lo34, hi34, A35, c35, lo35, hi35, rfl, h34, h35, ho36, hrn39, hrn40, hrn41, hE38⟩
  have hE38z := Ex.size hE38
  refine SeqR.u rfl rfl (yl_store (vs := [.string (bs ((s_l24Set p_t pn p_stage).Name)), .slice A34 (((s_l24Set p_t pn p_stage).Cols).length) c34, .slice A35 (((s_l24Set p_t pn p_stage).Idxs).length) c35]) ty26 rfl rfl rfl rfl rfl rfl (Box.ex (Box.ex hB19 hE28) hE38) (nb rfl) ?_)
  intro w44 hB45 hO46
  have hB45 : Box w44 b15 26 [.string (bs ((s_l24Set p_t pn p_stage).Name)), .slice A34 (((s_l24Set p_t pn p_stage).Cols).length) c34, .slice A35 (((s_l24Set p_t pn p_stage).Idxs).length) c35] := hB45
  have hO46z := hO46.size
  refine sA rfl (dn (CW.ret (rr rfl (.cons ⟨_, rfl, run_loadN ty26 (cs := [.string (bs ((s_l24Set p_t pn p_stage).Name)), .slice A34 (((s_l24Set p_t pn p_stage).Cols).length) c34, .slice A35 (((s_l24Set p_t pn p_stage).Idxs).length) c35]) rfl (hB45.cells (n := 3) rfl)⟩ (.cons rfl .nil)) ?_)))
  have hM47 : (s_SetStage p_t pn p_stage) = (((s_l24Set p_t pn p_stage), true)) := by simp only [s_SetStage, hb29, cL]
  rw [hM47]
  exact ⟨A34, c34, lo34, hi34, A35, c35, lo35, hi35, rfl, (OwnL.only gS h34 hO46 oM), (OwnL.only gI h35 hO46 oM), ho36, oM, oM, oM, (Below.only (Ex.trans (Ex.trans (Ex.trans (Ex.trans (Ex.refl w) hE14) hE20) hE28) hE38) hO46 oM)⟩
 ·refine CW.cond_t rfl (not_f hb29) (cR (sd rfl (yl_build (cs := [.string (bs (([] : Str))), .slice none 0 0, .slice none 0 0]) rfl opvs_nil (by kernel_rfl) (SeqR.u rfl rfl (yl_store (vs := [.string (bs (([] : Str))), .slice none 0 0, .slice none 0 0]) ty26 rfl rfl rfl rfl rfl rfl (Box.ex hB19 hE28) (nb rfl) ?_)))))
  intro w56 hB57 hO58
  have hB57 : Box w56 b15 26 [.string (bs (([] : Str))), .slice none 0 0, .slice none 0 0] := hB57
  have hO58z := hO58.size
  refine sA rfl (dn (CW.ret (tr (rr rfl (.cons ⟨_, rfl, run_loadN ty26 (cs := [.string (bs (([] : Str))), .slice none 0 0, .slice none 0 0]) rfl (hB57.cells (n := 3) rfl)⟩ (.cons rfl .nil)) ?_))))
  have hM59 : (s_SetStage p_t pn p_stage) = (((⟨([] : Str), [], []⟩ : DTable), false)) := by simp only [s_SetStage, hb29, cL]
  rw [hM59]
  exact ⟨none, 0, w56.heap.size, w56.heap.size, none, 0, w56.heap.size, w56.heap.size, rfl, (OwnL.nil _ _ _ _ _ _), (OwnL.nil _ _ _ _ _ _), ⟨(okS.lit rfl), (okL.nil _), (okL.nil _)⟩, oM, oM, oM, (Below.only (Ex.trans (Ex.trans (Ex.trans (Ex.refl w) hE14) hE20) hE28) hO58 oM)⟩
theorem c_i_IdxAt {A1 : Option Addr} {c1 : Nat} {A2 : Option Addr} {c2 : Nat} {w : World} (p_t : DTable) (pn : Str) (h1 : RdS w (Iv 0 w.heap.size) (RF e_Str) 1 A1 p_t.Cols.length c1 p_t.Cols) (h2 : RdS w (Iv 0 w.heap.size) (RF e_Idx) 3 A2 p_t.Idxs.length c2 p_t.Idxs) (o3 : ok_Table p_t) (o4 : okS pn) : Cal Tryz.prog 9 #[.agg #[.string (bs (p_t.Name)), .slice A1 p_t.Cols.length c1, .slice A2 p_t.Idxs.length c2], .string (bs (pn))] w fun v w' => v = .tuple #[.agg #[.string (bs ((i_IdxAt p_t pn).1.Name)), .int .i64 ((i_IdxAt p_t pn).1.Col), .int .i64 ((i_IdxAt p_t pn).1.Stage)], .bool ((i_IdxAt p_t pn).2)] ∧ ok_Idx ((i_IdxAt p_t pn).1) ∧ Ex w w' := by
 have hol5 : p_t.Name.length ≤ 1073741824 := o3.1
 have hol6 := o3.2.1.1
 have hol7 := o3.2.2.1
 have hol8 : pn.length ≤ 1073741824 := o4
 refine Cal.of func9 rfl ntmps9 rfl (cR (sd rfl (yl_box rfl rfl rfl ?_)))
 intro b9 w10 hs11 hz12 hB13 hE14
 refine sd rfl (yB ty35 (cs := [.string (bs (([] : Str))), .int .i64 (0), .int .i64 (0)]) rfl rfl ?_)
 intro b15 w16 hs17 hz18 hB19 hE20
 refine sA rfl (dn (CW.seq (cR ?_)))
 have q21 := Box.ex hB13 hE20
 refine sd rfl (yl_loadN ty26 rfl rfl (q21.cells (n := 3) rfl) rfl (sM rfl ?_))
 have q23 := RdS.ex gS (RdS.ex gS h1 hE14) hE20
 have q25 := RdS.ex gI (RdS.ex gI h2 hE14) hE20
 refine sd rfl (yC en26 rfl (oc rfl (oc rfl oz)) (Cal.mono (c_i_hasIdx p_t pn (RdS.up q23 gS) (RdS.up q25 gI) o3 o4) ?_))
 rintro v27 w26 ⟨rfl, hE28⟩
 have hE28z := Ex.size hE28
 refine sd rfl (yl_not rfl rfl (dn (bcase (i_hasIdx p_t pn) (fun hb29 => ?_) (fun hb29 => ?_))))
 ·obtain ⟨hb29p0, hb29p1, hb29p2⟩ := f_i_hasIdx hb29
  refine CW.cond_f rfl (not_t hb29) (CW.skip (tn (cR (sd rfl (yl_loadN ty26 rfl rfl ((Box.ex q21 hE28).cells (n := 3) rfl) rfl (sM rfl (sd rfl (yC en33 rfl (oc rfl (oc rfl oz)) (Cal.mono (c_i_Table_idx p_t pn (RdS.up (RdS.ex gS q23 hE28) gS) (RdS.up (RdS.ex gI q25 hE28) gI) o3 o4 Bo) ?_)))))))))
  rintro v35 w33 ⟨rfl, ho34, hE36⟩
  have hE36z := Ex.size hE36
  refine SeqR.u rfl rfl (yl_store (vs := [.string (bs ((i_Table_idx p_t pn).Name)), .int .i64 ((i_Table_idx p_t pn).Col), .int .i64 ((i_Table_idx p_t pn).Stage)]) ty35 rfl rfl rfl rfl rfl rfl (Box.ex (Box.ex hB19 hE28) hE36) (nb rfl) ?_)
  intro w39 hB40 hO41
  have hB40 : Box w39 b15 35 [.string (bs ((i_Table_idx p_t pn).Name)), .int .i64 ((i_Table_idx p_t pn).Col), .int .i64 ((i_Table_idx p_t pn).Stage)] := hB40
  have hO41z := hO41.size
  refine sA rfl (dn (CW.ret (rr rfl (.cons ⟨_, rfl, run_loadN ty35 (cs := [.string (bs ((i_Table_idx p_t pn).Name)), .int .i64 ((i_Table_idx p_t pn).Col), .int .i64 ((i_Table_idx p_t pn).Stage)]) rfl (hB40.cells (n := 3) rfl)⟩ (.cons rfl .nil)) ?_)))
  have hM42 : (i_IdxAt p_t pn) = (((i_Table_idx p_t pn), true)) := by simp only [i_IdxAt, hb29, cL]
  rw [hM42]
  exact ⟨rfl, ho34, (Below.only (Ex.trans (Ex.trans (Ex.trans (Ex.trans (Ex.refl w) hE14) hE20) hE28) hE36) hO41 oM)⟩
 ·refine CW.cond_t rfl (not_f hb29) (cR (sd rfl (yl_build (cs := [.string (bs (([] : Str))), .int .i64 (0), .int .i64 (0)]) rfl opvs_nil (by kernel_rfl) (SeqR.u rfl rfl (yl_store (vs := [.string (bs (([] : Str))), .int .i64 (0), .int .i64 (0)]) ty35 rfl rfl rfl rfl rfl rfl (Box.ex hB19 hE28) (nb rfl) ?_)))))
  intro w49 hB50 hO51
  have hB50 : Box w49 b15 35 [.string (bs (([] : Str))), .int .i64 (0), .int .i64 (0)] := hB50
  have hO51z := hO51.size
  refine sA rfl (dn (CW.ret (tr (rr rfl (.cons ⟨_, rfl, run_loadN ty35 (cs := [.string (bs (([] : Str))), .int .i64 (0), .int .i64 (0)]) rfl (hB50.cells (n := 3) rfl)⟩ (.cons rfl .nil)) ?_))))
  have hM52 : (i_IdxAt p_t pn) = (((⟨([] : Str), 0, 0⟩ : DIdx), false)) := by simp only [i_IdxAt, hb29, cL]
  rw [hM52]
  exact ⟨rfl, (okS.lit rfl), (Below.only (Ex.trans (Ex.trans (Ex.trans (Ex.refl w) hE14) hE20) hE28) hO51 oM)⟩
theorem c_s_IdxAt {A1 : Option Addr} {c1 : Nat} {A2 : Option Addr} {c2 : Nat} {w : World} (p_t : DTable) (pn : Str) (h1 : RdS w (Iv 0 w.heap.size) (RF e_Str) 1 A1 p_t.Cols.length c1 p_t.Cols) (h2 : RdS w (Iv 0 w.heap.size) (RF e_Idx) 3 A2 p_t.Idxs.length c2 p_t.Idxs) (o3 : ok_Table p_t) (o4 : okS pn) : Cal Tryz.prog 10 #[.agg #[.string (bs (p_t.Name)), .slice A1 p_t.Cols.length c1, .slice A2 p_t.Idxs.length c2], .string (bs (pn))] w fun v w' => v = .tuple #[.agg #[.string (bs ((s_IdxAt p_t pn).1.Name)), .int .i64 ((s_IdxAt p_t pn).1.Col), .int .i64 ((s_IdxAt p_t pn).1.Stage)], .bool ((s_IdxAt p_t pn).2)] ∧ ok_Idx ((s_IdxAt p_t pn).1) ∧ Ex w w' := by
 have hol5 : p_t.Name.length ≤ 1073741824 := o3.1
 have hol6 := o3.2.1.1
 have hol7 := o3.2.2.1
 have hol8 : pn.length ≤ 1073741824 := o4
 refine Cal.of func10 rfl ntmps10 rfl (cR (sd rfl (yl_box rfl rfl rfl ?_)))
 intro b9 w10 hs11 hz12 hB13 hE14
 refine sd rfl (yB ty35 (cs := [.string (bs (([] : Str))), .int .i64 (0), .int .i64 (0)]) rfl rfl ?_)
 intro b15 w16 hs17 hz18 hB19 hE20
 refine sA rfl (dn (cR ?_))
 have q21 := Box.ex hB13 hE20
 refine sd rfl (yl_loadN ty26 rfl rfl (q21.cells (n := 3) rfl) rfl (sM rfl ?_))
 have q23 := RdS.ex gS (RdS.ex gS h1 hE14) hE20
 have q25 := RdS.ex gI (RdS.ex gI h2 hE14) hE20
 refine sd rfl (yC en34 rfl (oc rfl (oc rfl oz)) (Cal.mono (c_s_l24Idx p_t pn (RdS.up q23 gS) (RdS.up q25 gI) o3 o4) ?_))
 rintro v27 w26 ⟨rfl, hE28⟩
 have hE28z := Ex.size hE28
 have hrf29 := rf_s_l24Idx p_t pn
 refine sA rfl (dn (CW.seq (cR ?_)))
 have q30 := Box.ex q21 hE28
 refine sd rfl (yl_loadN ty26 rfl rfl (q30.cells (n := 3) rfl) rfl ?_)
 have q32 := RdS.ex gI q25 hE28
 refine sd rfl (yC en14 rfl (oc rfl oz) (Cal.mono (c_s_GoodTable p_t (RdS.up (RdS.ex gS q23 hE28) gS) (RdS.up q32 gI) o3) ?_))
 rintro v34 w33 ⟨rfl, hE35⟩
 have hE35z := Ex.size hE35
 refine sd rfl (yl_not rfl rfl (sM rfl (bcase (s_GoodTable p_t) (fun hb36 => ?_) (fun hb36 => ?_))))
 ·have hb36p := f_s_GoodTable hb36
  refine sy rfl rfl (not_t hb36) (yM rfl rfl (sy rfl rfl (not_t hb36) (yl_lss rfl rfl rfl (sd rfl (yl_pick_f rfl rfl (not_t hb36) rfl (dn (bcase (decide ((s_l24Idx p_t pn) < 0)) (fun hb37 => ?_) (fun hb37 => ?_))))))))
  ·have hb37p := dec_t hb37
   refine CW.cond_t rfl hb37 (cR (sd rfl (yl_build (cs := [.string (bs (([] : Str))), .int .i64 (0), .int .i64 (0)]) rfl opvs_nil (by kernel_rfl) (SeqR.u rfl rfl (yl_store (vs := [.string (bs (([] : Str))), .int .i64 (0), .int .i64 (0)]) ty35 rfl rfl rfl rfl rfl rfl (Box.ex (Box.ex hB19 hE28) hE35) (nb rfl) ?_)))))
   intro w40 hB41 hO42
   have hB41 : Box w40 b15 35 [.string (bs (([] : Str))), .int .i64 (0), .int .i64 (0)] := hB41
   have hO42z := hO42.size
   refine sA rfl (dn (CW.ret (tr (rr rfl (.cons ⟨_, rfl, run_loadN ty35 (cs := [.string (bs (([] : Str))), .int .i64 (0), .int .i64 (0)]) rfl (hB41.cells (n := 3) rfl)⟩ (.cons rfl .nil)) ?_))))
   have hM43 : (s_IdxAt p_t pn) = (((⟨([] : Str), 0, 0⟩ : DIdx), false)) := by simp only [s_IdxAt, hb36, hb37, cL]
   rw [hM43]
   exact ⟨rfl, (okS.lit rfl), (Below.only (Ex.trans (Ex.trans (Ex.trans (Ex.trans (Ex.refl w) hE14) hE20) hE28) hE35) hO42 oM)⟩
  ·have hb37p := dec_f hb37
   refine CW.cond_f rfl hb37 (CW.skip (tn (cR (sd rfl (yl_fieldAddr fd26_2 rfl rfl (sd rfl (yl_load1 ty24 rfl rfl (((Box.ex q30 hE35).cell 2).trans rfl) (sM rfl ?_))))))))
   obtain ⟨eb51, eo51, _, eA51, _, ebl51, _, eR51, eC51⟩ := RdS.atD (RdS.ex gI q32 hE35) d_Idx (i := ((s_l24Idx p_t pn)).toNat) Bo
   obtain rfl := eR51
   have eC51 : Cells w33 eb51 (eo51 + (((s_l24Idx p_t pn)).toNat) * 3) [.string (bs ((p_t.Idxs.getD (((s_l24Idx p_t pn)).toNat) d_Idx).Name)), .int .i64 ((p_t.Idxs.getD (((s_l24Idx p_t pn)).toNat) d_Idx).Col), .int .i64 ((p_t.Idxs.getD (((s_l24Idx p_t pn)).toNat) d_Idx).Stage)] := eC51
   refine sd rfl (yl_indexAddr un24 ty35 rfl rfl rfl eA51 Bo Bo (sd rfl (yl_loadN ty35 rfl rfl eC51 rfl (SeqR.u rfl rfl (yl_store (vs := [.string (bs ((p_t.Idxs.getD (((s_l24Idx p_t pn)).toNat) d_Idx).Name)), .int .i64 ((p_t.Idxs.getD (((s_l24Idx p_t pn)).toNat) d_Idx).Col), .int .i64 ((p_t.Idxs.getD (((s_l24Idx p_t pn)).toNat) d_Idx).Stage)]) ty35 rfl rfl rfl rfl rfl rfl (Box.ex (Box.ex hB19 hE28) hE35) (nb rfl) ?_)))))
   intro w54 hB55 hO56
   have hB55 : Box w54 b15 35 [.string (bs ((p_t.Idxs.getD (((s_l24Idx p_t pn)).toNat) d_Idx).Name)), .int .i64 ((p_t.Idxs.getD (((s_l24Idx p_t pn)).toNat) d_Idx).Col), .int .i64 ((p_t.Idxs.getD (((s_l24Idx p_t pn)).toNat) d_Idx).Stage)] := hB55
   have hO56z := hO56.size
   refine sA rfl (dn (CW.ret (rr rfl (.cons ⟨_, rfl, run_loadN ty35 (cs := [.string (bs ((p_t.Idxs.getD (((s_l24Idx p_t pn)).toNat) d_Idx).Name)), .int .i64 ((p_t.Idxs.getD (((s_l24Idx p_t pn)).toNat) d_Idx).Col), .int .i64 ((p_t.Idxs.getD (((s_l24Idx p_t pn)).toNat) d_Idx).Stage)]) rfl (hB55.cells (n := 3) rfl)⟩ (.cons rfl .nil)) ?_)))
   have hM57 : (s_IdxAt p_t pn) = (((p_t.Idxs.getD (((s_l24Idx p_t pn)).toNat) d_Idx), true)) := by simp only [s_IdxAt, hb36, hb37, cL]
   rw [hM57]
   exact ⟨rfl, (okL.getD o3.2.2 ok_d_Idx _), (Below.only (Ex.trans (Ex.trans (Ex.trans (Ex.trans (Ex.refl w) hE14) hE20) hE28) hE35) hO56 oM)⟩
 ·refine sz rfl rfl (not_f hb36) (sz rfl rfl (not_f hb36) (sd rfl (yl_pick_t rfl rfl (not_f hb36) rfl (dn (CW.cond_t rfl rfl (cR (sd rfl (yl_build (cs := [.string (bs (([] : Str))), .int .i64 (0), .int .i64 (0)]) rfl opvs_nil (by kernel_rfl) ?_))))))))
  refine SeqR.u rfl rfl (yl_store (vs := [.string (bs (([] : Str))), .int .i64 (0), .int .i64 (0)]) ty35 rfl rfl rfl rfl rfl rfl (Box.ex (Box.ex hB19 hE28) hE35) (nb rfl) ?_)
  intro w65 hB66 hO67
  have hB66 : Box w65 b15 35 [.string (bs (([] : Str))), .int .i64 (0), .int .i64 (0)] := hB66
  have hO67z := hO67.size
  refine sA rfl (dn (CW.ret (tr (rr rfl (.cons ⟨_, rfl, run_loadN ty35 (cs := [.string (bs (([] : Str))), .int .i64 (0), .int .i64 (0)]) rfl (hB66.cells (n := 3) rfl)⟩ (.cons rfl .nil)) ?_))))
  have hM68 : (s_IdxAt p_t pn) = (((⟨([] : Str), 0, 0⟩ : DIdx), false)) := by simp only [s_IdxAt, hb36, cL]
  rw [hM68]
  exact ⟨rfl, (okS.lit rfl), (Below.only (Ex.trans (Ex.trans (Ex.trans (Ex.trans (Ex.refl w) hE14) hE20) hE28) hE35) hO67 oM)⟩
theorem c_l_qSameS {A1 : Option Addr} {c1 : Nat} {A3 : Option Addr} {c3 : Nat} {w : World} (p_a : List Str) (p_b : List Str) (h1 : RdS w (Iv 0 w.heap.size) (RF e_Str) 1 A1 p_a.length c1 p_a) (h3 : RdS w (Iv 0 w.heap.size) (RF e_Str) 1 A3 p_b.length c3 p_b) (o2 : (okL okS) p_a) (o4 : (okL okS) p_b) : Cal Tryz.prog 35 #[.slice A1 p_a.length c1, .slice A3 p_b.length c3] w fun v w' => v = .bool ((l_qSameS p_a p_b)) ∧ Ex w w' := by
 have hol5 := o2.1
 have hol6 := o4.1
 refine Cal.of func35 rfl ntmps35 rfl (cR (sA rfl (dn (CW.seq (cR ?_)))))
 refine sM rfl (sd rfl (yL un23 rfl rfl (sM rfl (sd rfl (yL un23 rfl rfl (sd rfl (yl_neq rfl rfl rfl (dn (bcase (decide ((p_a.length : Int) = (p_b.length : Int))) (fun hb7 => ?_) (fun hb7 => ?_))))))))))
 ·have hb7p := dec_t hb7
  refine CW.cond_f rfl (not_t hb7) (CW.skip (tn (CW.seq (cR (sM rfl (sd rfl (yL un23 rfl rfl (sM rfl ?_))))))))
  refine dn (CW.block (CW.loop (fun m9 L10 w11 => ∃ (k8 : Nat), m9 = p_a.length - k8 ∧ k8 ≤ p_a.length ∧ w.heap.size ≤ w11.heap.size ∧ lkp L10 0 = some (.slice A1 p_a.length c1) ∧ lkp L10 1 = some (.slice A3 p_b.length c3) ∧ lkp L10 12 = some (.int .i64 ((p_a.length : Int))) ∧ lkp L10 13 = some (.int .i64 ((k8 : Int))) ∧ RdS w11 (Iv 0 w.heap.size) (RF e_Str) 1 A1 p_a.length c1 p_a ∧ RdS w11 (Iv 0 w.heap.size) (RF e_Str) 1 A3 p_b.length c3 p_b ∧ Ex w w11 ∧ loopM (B_l_qSameS_0 p_a p_b) (p_a.length - k8) k8 () = loopM (B_l_qSameS_0 p_a p_b) (p_a.length - 0) 0 ()) (p_a.length - 0) ?_ ?_))
  ·exact ⟨0, rfl, oM, Nat.le_refl _, rfl, rfl, rfl, rfl, h1, h3, (Ex.refl w), rfl⟩
  ·rintro m12 L13 w14 ⟨k8, rfl, hk15, hsz17, hl18, hl19, hl20, hl21, hf22, hf23, hf24, hI16⟩
   refine CW.sub (Sub.cons hl18 (Sub.cons hl19 (Sub.cons hl20 (Sub.cons hl21 (Sub.nil _))))) ?_
   have hf24z := Ex.size hf24
   have hbg25 := RdS.big hf22
   rcases Nat.lt_or_ge k8 p_a.length with hlt26 | hlt26
   ·refine cR (sd rfl (yl_lss rfl rfl rfl (dn (CW.seq (CW.cond_t rfl (lt_t hlt26) (CW.skip (tn ?_)))))))
    refine CW.seq (CW.block (cR (sM rfl (sA rfl (dn (CW.seq ?_))))))
    obtain ⟨eb27, eo27, _, eA27, _, ebl27, _, eR27, eC27⟩ := RdS.aD hf22 d_Str (i := k8)
    obtain rfl := eR27
    have eC27 : Cells w14 eb27 (eo27 + k8 * 1) [.string (bs ((p_a.getD k8 d_Str)))] := eC27
    obtain ⟨eb28, eo28, _, eA28, _, ebl28, _, eR28, eC28⟩ := RdS.aD hf23 d_Str (i := k8)
    obtain rfl := eR28
    have eC28 : Cells w14 eb28 (eo28 + k8 * 1) [.string (bs ((p_b.getD k8 d_Str)))] := eC28
    refine drI 9 [.slice A1 p_a.length c1, .int .i64 ((k8 : Int)), .pointer (some ⟨eb27, eo27 + k8 * 1, none⟩), .string (bs ((p_a.getD k8 d_Str))), .slice A3 p_b.length c3, .int .i64 ((k8 : Int)), .pointer (some ⟨eb28, eo28 + k8 * 1, none⟩), .string (bs ((p_b.getD k8 d_Str))), .bool (!((p_a.getD k8 d_Str) == (p_b.getD k8 d_Str)))] Tryz.follows rfl ⟨?_, ?_, ?_, ?_, ?_, ?_, ?_, ?_, ?_, trivial⟩ ?_
    ·exact oI rfl fun h => yM rfl (h.old 0 _ rfl rfl) kI
    ·exact oI rfl fun h => yM rfl (h.old 5 _ rfl rfl) kI
    ·intro L39 w40 hi41
     have hE42 := hi41.ex
     have hE42z := Ex.size hE42
     exact os rfl ((yl_ixN un23 ty9 rfl (hi41.dt 0 16 rfl rfl rfl) (hi41.dt 1 17 rfl rfl rfl) eA27 kI))
    ·exact oI rfl fun h => yl_load1 ty9 rfl (h.dt 2 18 rfl rfl rfl) ((Cells.ex eC27 h.ex) 0 _ rfl) kI
    ·exact oI rfl fun h => yM rfl (h.old 1 _ rfl rfl) kI
    ·exact oI rfl fun h => yM rfl (h.old 5 _ rfl rfl) kI
    ·intro L61 w62 hi63
     have hE64 := hi63.ex
     have hE64z := Ex.size hE64
     exact os rfl ((yl_ixN un23 ty9 rfl (hi63.dt 4 20 rfl rfl rfl) (hi63.dt 5 21 rfl rfl rfl) eA28 kI))
    ·exact oI rfl fun h => yl_load1 ty9 rfl (h.dt 6 22 rfl rfl rfl) ((Cells.ex eC28 h.ex) 0 _ rfl) kI
    ·exact oI rfl fun h => yl_sneq (a := (p_a.getD k8 d_Str)) (b := (p_b.getD k8 d_Str)) rfl (h.dt 3 19 rfl rfl rfl) (h.dt 7 23 rfl rfl rfl) kI
    ·intro fl82 fh83 L79 w80 hp81
     have hE84 := hp81.ex
     have hE84z := Ex.size hE84
     refine dn (CW.sub (sC 0 (hp81.old 0 _ rfl rfl) (sC 1 (hp81.old 1 _ rfl rfl) (sC 12 (hp81.old 12 _ rfl rfl) (sC 13 (hp81.old 13 _ rfl rfl) (sC 24 (hp81.nt 8 24 rfl rfl rfl) (Sub.nil _)))))) (bcase ((p_a.getD k8 d_Str) == (p_b.getD k8 d_Str)) (fun hb90 => ?_) (fun hb90 => ?_)))
     ·refine CW.cond_f rfl (not_t hb90) (CW.skip (bn (tn (CW.region (sd rfl (yl_inc rfl rfl rfl oM (sM rfl (dn ?_))))))))
      have hB91 : B_l_qSameS_0 p_a p_b k8 () = .cont () := by simp only [B_l_qSameS_0, hb7, hb90, cL]
      exact ⟨p_a.length - (k8 + 1), oM, k8 + 1, rfl, hlt26, oM, rfl, rfl, rfl, rfl, (RdS.ex gS hf22 hE84), (RdS.ex gS hf23 hE84), (Ex.trans hf24 hE84), (loopM.cont hlt26 hB91).symm.trans hI16⟩
     ·refine CW.cond_t rfl (not_f hb90) (cR (sA rfl (dn (CW.ret (br (tr ?_))))))
      refine tr ?_
      have hB96 : B_l_qSameS_0 p_a p_b k8 () = .ret false := by simp only [B_l_qSameS_0, hb7, hb90, cL]
      have hL95 : loopM (B_l_qSameS_0 p_a p_b) (p_a.length - 0) 0 () = .ret false := hI16.symm.trans (loopM.ret hlt26 hB96)
      refine br (tr (rr rfl (.cons rfl .nil) ?_))
      have hM97 : (l_qSameS p_a p_b) = (false) := by simp only [l_qSameS, hb7, hb90, hL95, cL]
      rw [hM97]
      exact ⟨rfl, (Ex.trans hf24 hE84)⟩
   ·refine cR (sd rfl (yl_lss rfl rfl rfl (dn (CW.seq (CW.cond_f rfl (lt_f hlt26) (CW.exit (tx ?_)))))))
    refine tx ?_
    have hL99 : loopM (B_l_qSameS_0 p_a p_b) (p_a.length - 0) 0 () = .done () := hI16.symm.trans (loopM.stop hlt26)
    refine bx (tn (cR (sA rfl (dn (CW.ret (rr rfl (.cons rfl .nil) ?_))))))
    have hM100 : (l_qSameS p_a p_b) = (true) := by simp only [l_qSameS, hb7, hL99, cL]
    rw [hM100]
    exact ⟨rfl, hf24⟩
 ·have hb7p := dec_f hb7
  refine CW.cond_t rfl (not_f hb7) (cR (sA rfl (dn (CW.ret (tr (rr rfl (.cons rfl .nil) ?_))))))
  have hM101 : (l_qSameS p_a p_b) = (false) := by simp only [l_qSameS, hb7, cL]
  rw [hM101]
  exact ⟨rfl, (Ex.refl w)⟩
theorem c_l_qSameT {A1 : Option Addr} {c1 : Nat} {A2 : Option Addr} {c2 : Nat} {A4 : Option Addr} {c4 : Nat} {A5 : Option Addr} {c5 : Nat} {w : World} (p_a : DTable) (p_b : DTable) (h1 : RdS w (Iv 0 w.heap.size) (RF e_Str) 1 A1 p_a.Cols.length c1 p_a.Cols) (h2 : RdS w (Iv 0 w.heap.size) (RF e_Idx) 3 A2 p_a.Idxs.length c2 p_a.Idxs) (h4 : RdS w (Iv 0 w.heap.size) (RF e_Str) 1 A4 p_b.Cols.length c4 p_b.Cols) (h5 : RdS w (Iv 0 w.heap.size) (RF e_Idx) 3 A5 p_b.Idxs.length c5 p_b.Idxs) (o3 : ok_Table p_a) (o6 : ok_Table p_b) : Cal Tryz.prog 12 #[.agg #[.string (bs (p_a.Name)), .slice A1 p_a.Cols.length c1, .slice A2 p_a.Idxs.length c2], .agg #[.string (bs (p_b.Name)), .slice A4 p_b.Cols.length c4, .slice A5 p_b.Idxs.length c5]] w fun v w' => v = .bool ((l_qSameT p_a p_b)) ∧ Ex w w' := by
 have hol7 : p_a.Name.length ≤ 1073741824 := o3.1
 have hol8 := o3.2.1.1
 have hol9 := o3.2.2.1
 have hol10 : p_b.Name.length ≤ 1073741824 := o6.1
 have hol11 := o6.2.1.1
 have hol12 := o6.2.2.1
 refine Cal.of func12 rfl ntmps12 rfl (cR (sd rfl (yl_box rfl rfl rfl ?_)))
 intro b13 w14 hs15 hz16 hB17 hE18
 refine sd rfl (yl_box rfl rfl rfl ?_)
 intro b19 w20 hs21 hz22 hB23 hE24
 refine sA rfl (dn (CW.seq (cR (sd rfl (yl_fieldAddr fd26_0 rfl rfl ?_)))))
 have q25 := Box.ex hB17 hE24
 refine sd rfl (yl_load1 ty9 rfl rfl ((q25.cell 0).trans rfl) (sd rfl (yl_fieldAddr fd26_0 rfl rfl (sd rfl (yl_load1 ty9 rfl rfl ((hB23.cell 0).trans rfl) (sd rfl (yl_sneq (a := p_a.Name) (b := p_b.Name) rfl rfl rfl (sM rfl (bcase (p_a.Name == p_b.Name) (fun hb26 => ?_) (fun hb26 => ?_))))))))))
 ·refine sy rfl rfl (not_t hb26) (yl_fieldAddr fd26_1 rfl rfl (sy rfl rfl (not_t hb26) (yl_load1 ty23 rfl rfl ((q25.cell 1).trans rfl) (sy rfl rfl (not_t hb26) (yl_fieldAddr fd26_1 rfl rfl (sy rfl rfl (not_t hb26) (yl_load1 ty23 rfl rfl ((hB23.cell 1).trans rfl) ?_)))))))
  have q28 := RdS.ex gS (RdS.ex gS h1 hE18) hE24
  have q30 := RdS.ex gS (RdS.ex gS h4 hE18) hE24
  refine sy rfl rfl (not_t hb26) (yC en35 rfl (oc rfl (oc rfl oz)) (Cal.mono (c_l_qSameS p_a.Cols p_b.Cols (RdS.up q28 gS) (RdS.up q30 gS) o3.2.1 o6.2.1) ?_))
  rintro v32 w31 ⟨rfl, hE33⟩
  have hE33z := Ex.size hE33
  refine sy rfl rfl (not_t hb26) (yl_not rfl rfl (sd rfl (yl_pick_f rfl rfl (not_t hb26) rfl (sM rfl (bcase (l_qSameS p_a.Cols p_b.Cols) (fun hb34 => ?_) (fun hb34 => ?_))))))
  ·refine sy rfl rfl (not_t hb34) (yl_fieldAddr fd26_2 rfl rfl ?_)
   have q35 := Box.ex q25 hE33
   refine sy rfl rfl (not_t hb34) (yl_load1 ty24 rfl rfl ((q35.cell 2).trans rfl) (sy rfl rfl (not_t hb34) (yL un24 rfl rfl (sy rfl rfl (not_t hb34) (yl_fieldAddr fd26_2 rfl rfl ?_)))))
   have q36 := Box.ex hB23 hE33
   refine sy rfl rfl (not_t hb34) (yl_load1 ty24 rfl rfl ((q36.cell 2).trans rfl) (sy rfl rfl (not_t hb34) (yL un24 rfl rfl (sy rfl rfl (not_t hb34) (yl_neq rfl rfl rfl (sd rfl (yl_pick_f rfl rfl (not_t hb34) rfl (dn (bcase (decide ((p_a.Idxs.length : Int) = (p_b.Idxs.length : Int))) (fun hb37 => ?_) (fun hb37 => ?_))))))))))
   ·have hb37p := dec_t hb37
    refine CW.cond_f rfl (not_t hb37) (CW.skip (tn (CW.seq (cR (sd rfl (yl_fieldAddr fd26_2 rfl rfl (sd rfl (yl_load1 ty24 rfl rfl ((q35.cell 2).trans rfl) (sd rfl (yL un24 rfl rfl ?_))))))))))
    refine sM rfl (dn (CW.block (CW.loop (fun m39 L40 w41 => ∃ (k38 : Nat), m39 = p_a.Idxs.length - k38 ∧ k38 ≤ p_a.Idxs.length ∧ w31.heap.size ≤ w41.heap.size ∧ lkp L40 2 = some (.pointer (some ⟨b13, 0, none⟩)) ∧ lkp L40 3 = some (.pointer (some ⟨b19, 0, none⟩)) ∧ lkp L40 30 = some (.int .i64 ((p_a.Idxs.length : Int))) ∧ lkp L40 31 = some (.int .i64 ((k38 : Int))) ∧ Box w41 b13 26 [.string (bs (p_a.Name)), .slice A1 p_a.Cols.length c1, .slice A2 p_a.Idxs.length c2] ∧ RdS w41 (Iv 0 w.heap.size) (RF e_Str) 1 A1 p_a.Cols.length c1 p_a.Cols ∧ RdS w41 (Iv 0 w.heap.size) (RF e_Idx) 3 A2 p_a.Idxs.length c2 p_a.Idxs ∧ Box w41 b19 26 [.string (bs (p_b.Name)), .slice A4 p_b.Cols.length c4, .slice A5 p_b.Idxs.length c5] ∧ RdS w41 (Iv 0 w.heap.size) (RF e_Str) 1 A4 p_b.Cols.length c4 p_b.Cols ∧ RdS w41 (Iv 0 w.heap.size) (RF e_Idx) 3 A5 p_b.Idxs.length c5 p_b.Idxs ∧ Ex w w41 ∧ loopM (B_l_qSameT_0 p_a p_b) (p_a.Idxs.length - k38) k38 () = loopM (B_l_qSameT_0 p_a p_b) (p_a.Idxs.length - 0) 0 ()) (p_a.Idxs.length - 0) ?_ ?_)))
    ·exact ⟨0, rfl, oM, Nat.le_refl _, rfl, rfl, rfl, rfl, q35, (RdS.ex gS q28 hE33), (RdS.ex gI (RdS.ex gI (RdS.ex gI h2 hE18) hE24) hE33), q36, (RdS.ex gS q30 hE33), (RdS.ex gI (RdS.ex gI (RdS.ex gI h5 hE18) hE24) hE33), (Ex.trans (Ex.trans (Ex.trans (Ex.refl w) hE18) hE24) hE33), rfl⟩
    ·rintro m53 L54 w55 ⟨k38, rfl, hk56, hsz58, hl59, hl60, hl61, hl62, hf63, hf64, hf65, hf66, hf67, hf68, hf69, hI57⟩
     refine CW.sub (Sub.cons hl59 (Sub.cons hl60 (Sub.cons hl61 (Sub.cons hl62 (Sub.nil _))))) ?_
     have hf63z := Box.lt hf63
     have hf66z := Box.lt hf66
     have hf69z := Ex.size hf69
     have hbg70 := RdS.big hf65
     rcases Nat.lt_or_ge k38 p_a.Idxs.length with hlt71 | hlt71
     ·refine cR (sd rfl (yl_lss rfl rfl rfl (dn (CW.seq (CW.cond_t rfl (lt_t hlt71) (CW.skip (tn ?_)))))))
      refine CW.seq (CW.block (cR (sM rfl (sA rfl (dn (CW.seq ?_))))))
      obtain ⟨eb72, eo72, _, eA72, _, ebl72, _, eR72, eC72⟩ := RdS.aD hf65 d_Idx (i := k38)
      obtain rfl := eR72
      have eC72 : Cells w55 eb72 (eo72 + k38 * 3) [.string (bs ((p_a.Idxs.getD k38 d_Idx).Name)), .int .i64 ((p_a.Idxs.getD k38 d_Idx).Col), .int .i64 ((p_a.Idxs.getD k38 d_Idx).Stage)] := eC72
      obtain ⟨eb73, eo73, _, eA73, _, ebl73, _, eR73, eC73⟩ := RdS.aD hf68 d_Idx (i := k38)
      obtain rfl := eR73
      have eC73 : Cells w55 eb73 (eo73 + k38 * 3) [.string (bs ((p_b.Idxs.getD k38 d_Idx).Name)), .int .i64 ((p_b.Idxs.getD k38 d_Idx).Col), .int .i64 ((p_b.Idxs.getD k38 d_Idx).Stage)] := eC73
      refine drI 11 [.pointer (some ⟨b13, 0 + 2, none⟩), .slice A2 p_a.Idxs.length c2, .int .i64 ((k38 : Int)), .pointer (some ⟨eb72, eo72 + k38 * 3, none⟩), .agg #[.string (bs ((p_a.Idxs.getD k38 d_Idx).Name)), .int .i64 ((p_a.Idxs.getD k38 d_Idx).Col), .int .i64 ((p_a.Idxs.getD k38 d_Idx).Stage)], .pointer (some ⟨b19, 0 + 2, none⟩), .slice A5 p_b.Idxs.length c5, .int .i64 ((k38 : Int)), .pointer (some ⟨eb73, eo73 + k38 * 3, none⟩), .agg #[.string (bs ((p_b.Idxs.getD k38 d_Idx).Name)), .int .i64 ((p_b.Idxs.getD k38 d_Idx).Col), .int .i64 ((p_b.Idxs.getD k38 d_Idx).Stage)], .bool (!((((p_a.Idxs.getD k38 d_Idx).Name) == ((p_b.Idxs.getD k38 d_Idx).Name)) && ((decide (((p_a.Idxs.getD k38 d_Idx).Col) = ((p_b.Idxs.getD k38 d_Idx).Col))) && (decide (((p_a.Idxs.getD k38 d_Idx).Stage) = ((p_b.Idxs.getD k38 d_Idx).Stage))))))] Tryz.follows rfl ⟨?_, ?_, ?_, ?_, ?_, ?_, ?_, ?_, ?_, ?_, ?_, trivial⟩ ?_
      ·exact oI rfl fun h => yl_fieldAddr fd26_2 rfl (h.old 2 _ rfl rfl) kI
      ·exact oI rfl fun h => yl_load1 ty24 rfl (h.dt 0 34 rfl rfl rfl) (((Box.ex hf63 h.ex).cell 2).trans rfl) kI
      ·exact oI rfl fun h => yM rfl (h.old 5 _ rfl rfl) kI
      ·intro L90 w91 hi92
       have hE93 := hi92.ex
       have hE93z := Ex.size hE93
       exact os rfl ((yl_ixN un24 ty35 rfl (hi92.dt 1 35 rfl rfl rfl) (hi92.dt 2 36 rfl rfl rfl) eA72 kI))
      ·exact oI rfl fun h => yl_loadN ty35 rfl (h.dt 3 37 rfl rfl rfl) (Cells.ex eC72 h.ex) rfl kI
      ·exact oI rfl fun h => yl_fieldAddr fd26_2 rfl (h.old 3 _ rfl rfl) kI
      ·exact oI rfl fun h => yl_load1 ty24 rfl (h.dt 5 39 rfl rfl rfl) (((Box.ex hf66 h.ex).cell 2).trans rfl) kI
      ·exact oI rfl fun h => yM rfl (h.old 5 _ rfl rfl) kI
      ·intro L118 w119 hi120
       have hE121 := hi120.ex
       have hE121z := Ex.size hE121
       exact os rfl ((yl_ixN un24 ty35 rfl (hi120.dt 6 40 rfl rfl rfl) (hi120.dt 7 41 rfl rfl rfl) eA73 kI))
      ·exact oI rfl fun h => yl_loadN ty35 rfl (h.dt 8 42 rfl rfl rfl) (Cells.ex eC73 h.ex) rfl kI
      ·exact oI rfl fun h => yl_aneq (xs := [.string (bs ((p_a.Idxs.getD k38 d_Idx).Name)), .int .i64 ((p_a.Idxs.getD k38 d_Idx).Col), .int .i64 ((p_a.Idxs.getD k38 d_Idx).Stage)]) (ys := [.string (bs ((p_b.Idxs.getD k38 d_Idx).Name)), .int .i64 ((p_b.Idxs.getD k38 d_Idx).Col), .int .i64 ((p_b.Idxs.getD k38 d_Idx).Stage)]) Tryz.ae35 rfl (h.dt 4 38 rfl rfl rfl) (h.dt 9 43 rfl rfl rfl) kI
      ·intro fl139 fh140 L136 w137 hp138
       have hE141 := hp138.ex
       have hE141z := Ex.size hE141
       refine dn (CW.sub (sC 2 (hp138.old 2 _ rfl rfl) (sC 3 (hp138.old 3 _ rfl rfl) (sC 30 (hp138.old 30 _ rfl rfl) (sC 31 (hp138.old 31 _ rfl rfl) (sC 44 (hp138.nt 10 44 rfl rfl rfl) (Sub.nil _)))))) (bcase ((((p_a.Idxs.getD k38 d_Idx).Name) == ((p_b.Idxs.getD k38 d_Idx).Name)) && ((decide (((p_a.Idxs.getD k38 d_Idx).Col) = ((p_b.Idxs.getD k38 d_Idx).Col))) && (decide (((p_a.Idxs.getD k38 d_Idx).Stage) = ((p_b.Idxs.getD k38 d_Idx).Stage))))) (fun hb147 => ?_) (fun hb147 => ?_)))
       ·refine CW.cond_f rfl (not_t hb147) (CW.skip (bn (tn (CW.region (sd rfl (yl_inc rfl rfl rfl oM (sM rfl (dn ?_))))))))
        have hB148 : B_l_qSameT_0 p_a p_b k38 () = .cont () := by simp only [B_l_qSameT_0, hb26, hb34, hb37, hb147, cL]
        exact ⟨p_a.Idxs.length - (k38 + 1), oM, k38 + 1, rfl, hlt71, oM, rfl, rfl, rfl, rfl, (Box.ex hf63 hE141), (RdS.ex gS hf64 hE141), (RdS.ex gI hf65 hE141), (Box.ex hf66 hE141), (RdS.ex gS hf67 hE141), (RdS.ex gI hf68 hE141), (Ex.trans hf69 hE141), (loopM.cont hlt71 hB148).symm.trans hI57⟩
       ·refine CW.cond_t rfl (not_f hb147) (cR (sA rfl (dn (CW.ret (br (tr ?_))))))
        refine tr ?_
        have hB157 : B_l_qSameT_0 p_a p_b k38 () = .ret false := by simp only [B_l_qSameT_0, hb26, hb34, hb37, hb147, cL]
        have hL156 : loopM (B_l_qSameT_0 p_a p_b) (p_a.Idxs.length - 0) 0 () = .ret false := hI57.symm.trans (loopM.ret hlt71 hB157)
        refine br (tr (rr rfl (.cons rfl .nil) ?_))
        have hM158 : (l_qSameT p_a p_b) = (false) := by simp only [l_qSameT, hb26, hb34, hb37, hb147, hL156, cL]
        rw [hM158]
        exact ⟨rfl, (Ex.trans hf69 hE141)⟩
     ·refine cR (sd rfl (yl_lss rfl rfl rfl (dn (CW.seq (CW.cond_f rfl (lt_f hlt71) (CW.exit (tx ?_)))))))
      refine tx ?_
      have hL160 : loopM (B_l_qSameT_0 p_a p_b) (p_a.Idxs.length - 0) 0 () = .done () := hI57.symm.trans (loopM.stop hlt71)
      refine bx (tn (cR (sA rfl (dn (CW.ret (rr rfl (.cons rfl .nil) ?_))))))
      have hM161 : (l_qSameT p_a p_b) = (true) := by simp only [l_qSameT, hb26, hb34, hb37, hL160, cL]
      rw [hM161]
      exact ⟨rfl, hf69⟩
   ·have hb37p := dec_f hb37
    refine CW.cond_t rfl (not_f hb37) (cR (sA rfl (dn (CW.ret (tr (rr rfl (.cons rfl .nil) ?_))))))
    have hM162 : (l_qSameT p_a p_b) = (false) := by simp only [l_qSameT, hb26, hb34, hb37, cL]
    rw [hM162]
    exact ⟨rfl, (Ex.trans (Ex.trans (Ex.trans (Ex.refl w) hE18) hE24) hE33)⟩
  ·refine sz rfl rfl (not_f hb34) (sz rfl rfl (not_f hb34) (sz rfl rfl (not_f hb34) (sz rfl rfl (not_f hb34) (sz rfl rfl (not_f hb34) (sz rfl rfl (not_f hb34) (sz rfl rfl (not_f hb34) (sd rfl (yl_pick_t rfl rfl (not_f hb34) rfl (SeqR.done ?_)))))))))
   refine tn (CW.cond_t rfl rfl (cR (sA rfl (dn (CW.ret (tr ?_))))))
   refine rr rfl (.cons rfl .nil) ?_
   have hM166 : (l_qSameT p_a p_b) = (false) := by simp only [l_qSameT, hb26, hb34, cL]
   rw [hM166]
   exact ⟨rfl, (Ex.trans (Ex.trans (Ex.trans (Ex.refl w) hE18) hE24) hE33)⟩
 ·refine sz rfl rfl (not_f hb26) (sz rfl rfl (not_f hb26) (sz rfl rfl (not_f hb26) (sz rfl rfl (not_f hb26) (sz rfl rfl (not_f hb26) (sz rfl rfl (not_f hb26) (sd rfl (yl_pick_t rfl rfl (not_f hb26) rfl (sM rfl (sz rfl rfl rfl ?_)))))))))
  refine sz rfl rfl rfl (sz rfl rfl rfl (sz rfl rfl rfl (sz rfl rfl rfl (sz rfl rfl rfl (sz rfl rfl rfl (sd rfl (yl_pick_t rfl rfl rfl rfl (dn ?_))))))))
  refine CW.cond_t rfl rfl (cR (sA rfl (dn (CW.ret (tr (rr rfl (.cons rfl .nil) ?_))))))
  have hM170 : (l_qSameT p_a p_b) = (false) := by simp only [l_qSameT, hb26, cL]
  rw [hM170]
  exact ⟨rfl, (Ex.trans (Ex.trans (Ex.refl w) hE18) hE24)⟩
theorem c_l_qSameTs {A1 : Option Addr} {c1 : Nat} {A3 : Option Addr} {c3 : Nat} {w : World} (p_a : List DTable) (p_b : List DTable) (h1 : RdS w (Iv 0 w.heap.size) R_Table 3 A1 p_a.length c1 p_a) (h3 : RdS w (Iv 0 w.heap.size) R_Table 3 A3 p_b.length c3 p_b) (o2 : (okL ok_Table) p_a) (o4 : (okL ok_Table) p_b) : Cal Tryz.prog 11 #[.slice A1 p_a.length c1, .slice A3 p_b.length c3] w fun v w' => v = .bool ((l_qSameTs p_a p_b)) ∧ Ex w w' := by
 have hol5 := o2.1
 have hol6 := o4.1
 refine Cal.of func11 rfl ntmps11 rfl (cR (sA rfl (dn (CW.seq (cR ?_)))))
 refine sM rfl (sd rfl (yL un29 rfl rfl (sM rfl (sd rfl (yL un29 rfl rfl (sd rfl (yl_neq rfl rfl rfl (dn (bcase (decide ((p_a.length : Int) = (p_b.length : Int))) (fun hb7 => ?_) (fun hb7 => ?_))))))))))
 ·have hb7p := dec_t hb7
  refine CW.cond_f rfl (not_t hb7) (CW.skip (tn (CW.seq (cR (sM rfl (sd rfl (yL un29 rfl rfl (sM rfl ?_))))))))
  refine dn (CW.block (CW.loop (fun m9 L10 w11 => ∃ (k8 : Nat), m9 = p_a.length - k8 ∧ k8 ≤ p_a.length ∧ w.heap.size ≤ w11.heap.size ∧ lkp L10 0 = some (.slice A1 p_a.length c1) ∧ lkp L10 1 = some (.slice A3 p_b.length c3) ∧ lkp L10 12 = some (.int .i64 ((p_a.length : Int))) ∧ lkp L10 13 = some (.int .i64 ((k8 : Int))) ∧ RdS w11 (Iv 0 w.heap.size) R_Table 3 A1 p_a.length c1 p_a ∧ RdS w11 (Iv 0 w.heap.size) R_Table 3 A3 p_b.length c3 p_b ∧ Ex w w11 ∧ loopM (B_l_qSameTs_0 p_a p_b) (p_a.length - k8) k8 () = loopM (B_l_qSameTs_0 p_a p_b) (p_a.length - 0) 0 ()) (p_a.length - 0) ?_ ?_))
  ·exact ⟨0, rfl, oM, Nat.le_refl _, rfl, rfl, rfl, rfl, h1, h3, (Ex.refl w), rfl⟩
  ·rintro m12 L13 w14 ⟨k8, rfl, hk15, hsz17, hl18, hl19, hl20, hl21, hf22, hf23, hf24, hI16⟩
   refine CW.sub (Sub.cons hl18 (Sub.cons hl19 (Sub.cons hl20 (Sub.cons hl21 (Sub.nil _))))) ?_
   have hf24z := Ex.size hf24
   have hbg25 := RdS.big hf22
   rcases Nat.lt_or_ge k8 p_a.length with hlt26 | hlt26
   ·refine cR (sd rfl (yl_lss rfl rfl rfl (dn (CW.seq (CW.cond_t rfl (lt_t hlt26) (CW.skip (tn ?_)))))))
    refine CW.seq (CW.block (cR (sM rfl (sA rfl (dn (CW.seq ?_))))))
    obtain ⟨eb27, eo27, _, eA27, _, ebl27, _, eR27, eC27⟩ := RdS.aD hf22 d_Table (i := k8)
    obtain ⟨A28, c28, A29, c29, rfl, h28, h29⟩ := eR27
    obtain ⟨eb30, eo30, _, eA30, _, ebl30, _, eR30, eC30⟩ := RdS.aD hf23 d_Table (i := k8)
    obtain ⟨A31, c31, A32, c32, rfl, h31, h32⟩ := eR30
    refine drI 10 [.slice A1 p_a.length c1, .int .i64 ((k8 : Int)), .pointer (some ⟨eb27, eo27 + k8 * 3, none⟩), .agg #[.string (bs ((p_a.getD k8 d_Table).Name)), .slice A28 (((p_a.getD k8 d_Table).Cols).length) c28, .slice A29 (((p_a.getD k8 d_Table).Idxs).length) c29], .slice A3 p_b.length c3, .int .i64 ((k8 : Int)), .pointer (some ⟨eb30, eo30 + k8 * 3, none⟩), .agg #[.string (bs ((p_b.getD k8 d_Table).Name)), .slice A31 (((p_b.getD k8 d_Table).Cols).length) c31, .slice A32 (((p_b.getD k8 d_Table).Idxs).length) c32], .bool ((l_qSameT (p_a.getD k8 d_Table) (p_b.getD k8 d_Table))), .bool (!(l_qSameT (p_a.getD k8 d_Table) (p_b.getD k8 d_Table)))] Tryz.follows rfl ⟨?_, ?_, ?_, ?_, ?_, ?_, ?_, ?_, ?_, ?_, trivial⟩ ?_
    ·exact oI rfl fun h => yM rfl (h.old 0 _ rfl rfl) kI
    ·exact oI rfl fun h => yM rfl (h.old 5 _ rfl rfl) kI
    ·intro L44 w45 hi46
     have hE47 := hi46.ex
     have hE47z := Ex.size hE47
     exact os rfl ((yl_ixN un29 ty26 rfl (hi46.dt 0 16 rfl rfl rfl) (hi46.dt 1 17 rfl rfl rfl) eA27 kI))
    ·exact oI rfl fun h => yl_loadN ty26 rfl (h.dt 2 18 rfl rfl rfl) (Cells.ex eC27 h.ex) rfl kI
    ·exact oI rfl fun h => yM rfl (h.old 1 _ rfl rfl) kI
    ·exact oI rfl fun h => yM rfl (h.old 5 _ rfl rfl) kI
    ·intro L66 w67 hi68
     have hE69 := hi68.ex
     have hE69z := Ex.size hE69
     exact os rfl ((yl_ixN un29 ty26 rfl (hi68.dt 4 20 rfl rfl rfl) (hi68.dt 5 21 rfl rfl rfl) eA30 kI))
    ·exact oI rfl fun h => yl_loadN ty26 rfl (h.dt 6 22 rfl rfl rfl) (Cells.ex eC30 h.ex) rfl kI
    ·intro L78 w79 hi80
     have hE81 := hi80.ex
     exact OpR.op' rfl (yC en12 rfl (oc (hi80.dt 3 19 rfl rfl rfl) (oc (hi80.dt 7 23 rfl rfl rfl) oz)) (Cal.mono (c_l_qSameT (p_a.getD k8 d_Table) (p_b.getD k8 d_Table) (RdS.up (RdS.ex gS h28 hE81) gS) (RdS.up (RdS.ex gI h29 hE81) gI) (RdS.up (RdS.ex gS h31 hE81) gS) (RdS.up (RdS.ex gI h32 hE81) gI) (okL.getD o2 ok_d_Table _) (okL.getD o4 ok_d_Table _)) fun _ _ h => h))
    ·exact oI rfl fun h => yl_not rfl (h.dt 8 24 rfl rfl rfl) kI
    ·intro fl99 fh100 L96 w97 hp98
     have hE101 := hp98.ex
     have hE101z := Ex.size hE101
     refine dn (CW.sub (sC 0 (hp98.old 0 _ rfl rfl) (sC 1 (hp98.old 1 _ rfl rfl) (sC 12 (hp98.old 12 _ rfl rfl) (sC 13 (hp98.old 13 _ rfl rfl) (sC 25 (hp98.nt 9 25 rfl rfl rfl) (Sub.nil _)))))) (bcase (l_qSameT (p_a.getD k8 d_Table) (p_b.getD k8 d_Table)) (fun hb107 => ?_) (fun hb107 => ?_)))
     ·refine CW.cond_f rfl (not_t hb107) (CW.skip (bn (tn (CW.region (sd rfl (yl_inc rfl rfl rfl oM (sM rfl (dn ?_))))))))
      have hB108 : B_l_qSameTs_0 p_a p_b k8 () = .cont () := by simp only [B_l_qSameTs_0, hb7, hb107, cL]
      exact ⟨p_a.length - (k8 + 1), oM, k8 + 1, rfl, hlt26, oM, rfl, rfl, rfl, rfl, (RdS.ex good_Table hf22 hE101), (RdS.ex good_Table hf23 hE101), (Ex.trans hf24 hE101), (loopM.cont hlt26 hB108).symm.trans hI16⟩
     ·refine CW.cond_t rfl (not_f hb107) (cR (sA rfl (dn (CW.ret (br (tr ?_))))))
      refine tr ?_
      have hB113 : B_l_qSameTs_0 p_a p_b k8 () = .ret false := by simp only [B_l_qSameTs_0, hb7, hb107, cL]
      have hL112 : loopM (B_l_qSameTs_0 p_a p_b) (p_a.length - 0) 0 () = .ret false := hI16.symm.trans (loopM.ret hlt26 hB113)
      refine br (tr (rr rfl (.cons rfl .nil) ?_))
      have hM114 : (l_qSameTs p_a p_b) = (false) := by simp only [l_qSameTs, hb7, hb107, hL112, cL]
      rw [hM114]
      exact ⟨rfl, (Ex.trans hf24 hE101)⟩
   ·refine cR (sd rfl (yl_lss rfl rfl rfl (dn (CW.seq (CW.cond_f rfl (lt_f hlt26) (CW.exit (tx ?_)))))))
    refine tx ?_
    have hL116 : loopM (B_l_qSameTs_0 p_a p_b) (p_a.length - 0) 0 () = .done () := hI16.symm.trans (loopM.stop hlt26)
    refine bx (tn (cR (sA rfl (dn (CW.ret (rr rfl (.cons rfl .nil) ?_))))))
    have hM117 : (l_qSameTs p_a p_b) = (true) := by simp only [l_qSameTs, hb7, hL116, cL]
    rw [hM117]
    exact ⟨rfl, hf24⟩
 ·have hb7p := dec_f hb7
  refine CW.cond_t rfl (not_f hb7) (cR (sA rfl (dn (CW.ret (tr (rr rfl (.cons rfl .nil) ?_))))))
  have hM118 : (l_qSameTs p_a p_b) = (false) := by simp only [l_qSameTs, hb7, cL]
  rw [hM118]
  exact ⟨rfl, (Ex.refl w)⟩
end Go.Proofs.YtgfkmgjpannelaaGreatDoor
