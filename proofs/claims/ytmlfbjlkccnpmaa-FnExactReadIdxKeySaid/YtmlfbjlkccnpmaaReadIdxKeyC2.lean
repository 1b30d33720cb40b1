/- Read Idx Key: what each call returns, part 2. -/
import Derived.Test.YtmlfbjlkccnpmaaReadIdxKeyC1
set_option linter.unusedVariables false
set_option linter.unusedSimpArgs false
namespace Go.Proofs.Ytmlfbjlkccnpmaa
open Go.RowKit Go.X
set_option maxRecDepth 100000 in
set_option maxHeartbeats 2000000 in
theorem c_i_GoodTable {A1 : Option Addr} {c1 : Nat} {A2 : Option Addr} {c2 : Nat} {w : World} (p_0 : DTable) (h1 : RdS w (Iv 0 w.heap.size) (RF e_Str) 1 A1 p_0.Cols.length c1 p_0.Cols) (h2 : RdS w (Iv 0 w.heap.size) (RF e_Idx) 3 A2 p_0.Idxs.length c2 p_0.Idxs) (o3 : ok_Table p_0) : Cal Try.prog 72 #[.agg #[.string (bs (p_0.Name)), .slice A1 p_0.Cols.length c1, .slice A2 p_0.Idxs.length c2]] w fun v w' => v = .bool ((i_GoodTable p_0)) ∧ Ex w w' := by
 have hol4 : p_0.Name.length ≤ 1073741824 := o3.1
 have hol5 := o3.2.1.1
 have hol6 := o3.2.2.1
 refine Cal.of (vs := [.agg #[.string (bs (p_0.Name)), .slice A1 p_0.Cols.length c1, .slice A2 p_0.Idxs.length c2]]) Try.func72 rfl Try.ntmps72 rfl (CW.seq (CW.region (sd rfl (yl_box (cs := [.string (bs (p_0.Name)), .slice A1 p_0.Cols.length c1, .slice A2 p_0.Idxs.length c2]) rfl rfl rfl ?_))))
 intro b7 w8 hs9 hz10 hB11 hE12
 refine sd rfl (yl_assign rfl rfl (SeqR.done (tn (CW.seq (CW.seq (CW.region (sd rfl (yl_fieldAddr Try.fd35_0 rfl rfl (sd rfl (yl_load1 Try.ty9 rfl rfl ((hB11.cell 0).trans rfl) (sd rfl (yl_call Try.en142 rfl (opvs_cons rfl (opvs_cons rfl opvs_nil)) (Cal.mono (c_i_areLetters p_0.Name 1 o3.1) ?_)))))))))))))
 rintro v14 w13 ⟨rfl, hE15⟩
 have hE15z := Ex.size hE15
 refine sd rfl (yl_not rfl rfl (sd rfl (yl_move rfl rfl (bcase (i_areLetters p_0.Name 1) (fun hb16 => ?_) (fun hb16 => ?_)))))
 ·refine sy rfl rfl (not_t hb16) (yl_fieldAddr Try.fd35_1 rfl rfl ?_)
  have q17 := Box.ex hB11 hE15
  refine sy rfl rfl (not_t hb16) (yl_load1 Try.ty22 rfl rfl ((q17.cell 1).trans rfl) (sy rfl rfl (not_t hb16) (yl_len Try.un22 rfl rfl (sy rfl rfl (not_t hb16) (yl_call Try.en129 rfl (opvs_cons rfl (opvs_cons rfl (opvs_cons rfl opvs_nil))) (Cal.mono (c_i_within (p_0.Cols.length : Int) 2 4) ?_))))))
  rintro v19 w18 ⟨rfl, hE20⟩
  have hE20z := Ex.size hE20
  refine sy rfl rfl (not_t hb16) (yl_not rfl rfl (sd rfl (yl_pick_f rfl rfl (not_t hb16) rfl (sd rfl (yl_move rfl rfl (bcase (i_within (p_0.Cols.length : Int) 2 4) (fun hb21 => ?_) (fun hb21 => ?_)))))))
  ·have hb21p := f_within hb21
   refine sy rfl rfl (not_t hb21) (yl_fieldAddr Try.fd35_2 rfl rfl ?_)
   have q22 := Box.ex q17 hE20
   refine sy rfl rfl (not_t hb21) (yl_load1 Try.ty33 rfl rfl ((q22.cell 2).trans rfl) (sy rfl rfl (not_t hb21) (yl_len Try.un33 rfl rfl (sy rfl rfl (not_t hb21) (yl_gtr rfl rfl rfl (sd rfl (yl_pick_f rfl rfl (not_t hb21) rfl (SeqR.done (tn (bcase (decide (3 < (p_0.Idxs.length : Int))) (fun hb23 => ?_) (fun hb23 => ?_)))))))))))
   ·have hb23p := dec_t hb23
    refine CW.cond_t rfl hb23 (CW.seq (CW.region (sd rfl (yl_assign rfl rfl (SeqR.done (tn (CW.ret (tr (rr rfl (.cons rfl .nil) ?_)))))))))
    have hM24 : (i_GoodTable p_0) = (false) := by simp only [i_GoodTable, hb16, hb21, hb23, cond_true, cond_false, loopE_done, loopE_ret]
    rw [hM24]
    exact ⟨rfl, (Ex.trans (Ex.trans (Ex.trans (Ex.refl w) hE12) hE15) hE20)⟩
   ·have hb23p := dec_f hb23
    refine CW.cond_f rfl hb23 (CW.skip (tn (CW.seq (CW.seq (CW.region (sd rfl (yl_fieldAddr Try.fd35_1 rfl rfl (sd rfl (yl_load1 Try.ty22 rfl rfl ((q22.cell 1).trans rfl) (sd rfl (yl_len Try.un22 rfl rfl ?_)))))))))))
    refine sd rfl (yl_move rfl rfl (SeqR.done (tn (CW.block (CW.loop (fun m29 L30 w31 => ∃ (k28 : Nat), m29 = p_0.Cols.length - k28 ∧ k28 ≤ p_0.Cols.length ∧ w18.heap.size ≤ w31.heap.size ∧ lkp L30 1 = some (.pointer (some ⟨b7, 0, none⟩)) ∧ lkp L30 25 = some (.slice A1 p_0.Cols.length c1) ∧ lkp L30 26 = some (.int .i64 ((p_0.Cols.length : Int))) ∧ lkp L30 27 = some (.int .i64 ((k28 : Int))) ∧ Box w31 b7 35 [.string (bs (p_0.Name)), .slice A1 p_0.Cols.length c1, .slice A2 p_0.Idxs.length c2] ∧ RdS w31 (Iv 0 w.heap.size) (RF e_Str) 1 A1 p_0.Cols.length c1 p_0.Cols ∧ RdS w31 (Iv 0 w.heap.size) (RF e_Idx) 3 A2 p_0.Idxs.length c2 p_0.Idxs ∧ Ex w w31 ∧ loopM (B_i_GoodTable_0 p_0) (p_0.Cols.length - k28) k28 () = loopM (B_i_GoodTable_0 p_0) (p_0.Cols.length - 0) 0 ()) (p_0.Cols.length - 0) ?_ ?_)))))
    ·exact ⟨0, rfl, (by omega), Nat.le_refl _, rfl, rfl, rfl, rfl, q22, (RdS.ex good_Str (RdS.ex good_Str (RdS.ex good_Str h1 hE12) hE15) hE20), (RdS.ex good_Idx (RdS.ex good_Idx (RdS.ex good_Idx h2 hE12) hE15) hE20), (Ex.trans (Ex.trans (Ex.trans (Ex.refl w) hE12) hE15) hE20), rfl⟩
    ·rintro m41 L42 w43 ⟨k28, rfl, hk44, hsz46, hl47, hl48, hl49, hl50, hf51, hf52, hf53, hf54, hI45⟩
     refine CW.sub (Sub.cons hl47 (Sub.cons hl48 (Sub.cons hl49 (Sub.cons hl50 (Sub.nil _))))) ?_
     have hf51z := Box.lt hf51
     have hf54z := Ex.size hf54
     have hbg55 := RdS.big hf52
     rcases Nat.lt_or_ge k28 p_0.Cols.length with hlt56 | hlt56
     ·refine CW.seq (CW.region (sd rfl (yl_lss rfl rfl rfl (SeqR.done (tn (CW.seq (CW.cond_t rfl (lt_t hlt56) (CW.skip (tn ?_)))))))))
      refine CW.seq (CW.block (CW.seq (CW.region (sd rfl (yl_move rfl rfl ?_)))))
      obtain ⟨eb57, eo57, ec57, eA57, eS57, ebl57, el57, eR57, eC57⟩ := RdS.atD hf52 d_Str (i := k28) (by first | omega | assumption)
      obtain rfl := eR57
      have eC57 : Cells w43 eb57 (eo57 + k28 * 1) [.string (bs ((p_0.Cols.getD k28 d_Str)))] := eC57
      refine sd rfl (yl_indexAddrN Try.un22 Try.ty9 rfl rfl rfl eA57 (by first | omega | assumption | (simp only [IntKind.wrap_i64] at *; omega)) (sd rfl (yl_load1 Try.ty9 rfl rfl (eC57 0 _ rfl) (sd rfl (yl_assign rfl rfl (sd rfl (yl_assign rfl rfl (SeqR.done (tn (CW.seq (CW.region (sd rfl (yl_move rfl rfl ?_)))))))))))))
      refine sd rfl (yl_call Try.en142 rfl (opvs_cons rfl (opvs_cons rfl opvs_nil)) (Cal.mono (c_i_areLetters (p_0.Cols.getD k28 d_Str) 3 (okL.getD o3.2.1 ok_d_Str _)) ?_))
      rintro v59 w58 ⟨rfl, hE60⟩
      have hE60z := Ex.size hE60
      refine sd rfl (yl_not rfl rfl (sd rfl (yl_move rfl rfl (bcase (i_areLetters (p_0.Cols.getD k28 d_Str) 3) (fun hb61 => ?_) (fun hb61 => ?_)))))
      ·refine sy rfl rfl (not_t hb61) (yl_fieldAddr Try.fd35_1 rfl rfl ?_)
       have q62 := Box.ex hf51 hE60
       refine sy rfl rfl (not_t hb61) (yl_load1 Try.ty22 rfl rfl ((q62.cell 1).trans rfl) (sy rfl rfl (not_t hb61) (yl_move rfl rfl ?_)))
       have q63 := RdS.ex good_Str hf52 hE60
       obtain ⟨A64, c65, he68, h67⟩ := RdS.sl (RdS.drop (RdS.take q63 (k := k28) (by omega)) (k := 0) (by omega))
       have hrc69 := (q63).2.1
       refine sy rfl rfl (not_t hb61) (yl_sliceR (kl := .i64) (l := 0) (h := k28) Try.un22 Try.ty9 rfl rfl (.inl ⟨rfl, rfl⟩) (.inr ⟨_, rfl, rfl⟩) (by omega) (by omega) he68 (sy rfl rfl (not_t hb61) (yl_move rfl rfl (sy rfl rfl (not_t hb61) (yl_call Try.en143 rfl (opvs_cons rfl (opvs_cons rfl opvs_nil)) (Cal.mono (c_g_slices_Contains_string (p_0.Cols.take k28) (p_0.Cols.getD k28 d_Str) (RdS.up h67 good_Str) (okL.take o3.2.1 _) (okL.getD o3.2.1 ok_d_Str _)) ?_))))))
       rintro v71 w70 ⟨rfl, hE72⟩
       have hE72z := Ex.size hE72
       refine sd rfl (yl_pick_f rfl rfl (not_t hb61) rfl (SeqR.done (tn (bcase (g_slices_Contains_string (p_0.Cols.take k28) (p_0.Cols.getD k28 d_Str)) (fun hb73 => ?_) (fun hb73 => ?_)))))
       ·refine CW.cond_t rfl hb73 (CW.seq (CW.region (sd rfl (yl_assign rfl rfl (SeqR.done (tn (CW.ret (br (tr ?_)))))))))
        refine tr ?_
        have hB75 : B_i_GoodTable_0 p_0 k28 () = .ret false := by simp only [B_i_GoodTable_0, hb16, hb21, hb23, hb61, hb73, cond_true, cond_false, loopE_done, loopE_ret]
        have hL74 : loopM (B_i_GoodTable_0 p_0) (p_0.Cols.length - 0) 0 () = .ret false := hI45.symm.trans (loopM.ret hlt56 hB75)
        refine br (tr (rr rfl (.cons rfl .nil) ?_))
        have hM76 : (i_GoodTable p_0) = (false) := by simp only [i_GoodTable, hb16, hb21, hb23, hb61, hb73, hL74, cond_true, cond_false, loopE_done, loopE_ret]
        rw [hM76]
        exact ⟨rfl, (Ex.trans (Ex.trans hf54 hE60) hE72)⟩
       ·refine CW.cond_f rfl hb73 (CW.skip (bn (tn (CW.region (sd rfl (yl_inc rfl rfl rfl (by omega) (sd rfl (yl_move rfl rfl (SeqR.done (tn ?_))))))))))
        have hB79 : B_i_GoodTable_0 p_0 k28 () = .cont () := by simp only [B_i_GoodTable_0, hb16, hb21, hb23, hb61, hb73, cond_true, cond_false, loopE_done, loopE_ret]
        exact ⟨p_0.Cols.length - (k28 + 1), by omega, k28 + 1, rfl, hlt56, (by omega), rfl, rfl, rfl, rfl, (Box.ex q62 hE72), (RdS.ex good_Str q63 hE72), (RdS.ex good_Idx (RdS.ex good_Idx hf53 hE60) hE72), (Ex.trans (Ex.trans hf54 hE60) hE72), (loopM.cont hlt56 hB79).symm.trans hI45⟩
      ·refine sz rfl rfl (not_f hb61) (sz rfl rfl (not_f hb61) (sz rfl rfl (not_f hb61) (sz rfl rfl (not_f hb61) (sz rfl rfl (not_f hb61) (sz rfl rfl (not_f hb61) (sd rfl (yl_pick_t rfl rfl (not_f hb61) rfl (SeqR.done (tn ?_)))))))))
       refine CW.cond_t rfl rfl (CW.seq (CW.region (sd rfl (yl_assign rfl rfl (SeqR.done (tn (CW.ret (br (tr ?_)))))))))
       refine tr ?_
       have hB87 : B_i_GoodTable_0 p_0 k28 () = .ret false := by simp only [B_i_GoodTable_0, hb16, hb21, hb23, hb61, cond_true, cond_false, loopE_done, loopE_ret]
       have hL86 : loopM (B_i_GoodTable_0 p_0) (p_0.Cols.length - 0) 0 () = .ret false := hI45.symm.trans (loopM.ret hlt56 hB87)
       refine br (tr (rr rfl (.cons rfl .nil) ?_))
       have hM88 : (i_GoodTable p_0) = (false) := by simp only [i_GoodTable, hb16, hb21, hb23, hb61, hL86, cond_true, cond_false, loopE_done, loopE_ret]
       rw [hM88]
       exact ⟨rfl, (Ex.trans hf54 hE60)⟩
     ·refine CW.seq (CW.region (sd rfl (yl_lss rfl rfl rfl (SeqR.done (tn (CW.seq (CW.cond_f rfl (lt_f hlt56) (CW.exit (tx ?_)))))))))
      refine tx ?_
      have hL90 : loopM (B_i_GoodTable_0 p_0) (p_0.Cols.length - 0) 0 () = .done () := hI45.symm.trans (loopM.stop hlt56)
      refine bx (tn (CW.seq (CW.seq (CW.region (sd rfl (yl_fieldAddr Try.fd35_2 rfl rfl (sd rfl (yl_load1 Try.ty33 rfl rfl ((hf51.cell 2).trans rfl) (sd rfl (yl_len Try.un33 rfl rfl (sd rfl (yl_move rfl rfl ?_))))))))))))
      refine SeqR.done (tn (CW.block (CW.loop (fun m129 L130 w131 => ∃ (k91 : Nat), m129 = p_0.Idxs.length - k91 ∧ k91 ≤ p_0.Idxs.length ∧ w43.heap.size ≤ w131.heap.size ∧ lkp L130 1 = some (.pointer (some ⟨b7, 0, none⟩)) ∧ lkp L130 45 = some (.slice A2 p_0.Idxs.length c2) ∧ lkp L130 46 = some (.int .i64 ((p_0.Idxs.length : Int))) ∧ lkp L130 47 = some (.int .i64 ((k91 : Int))) ∧ Box w131 b7 35 [.string (bs (p_0.Name)), .slice A1 p_0.Cols.length c1, .slice A2 p_0.Idxs.length c2] ∧ RdS w131 (Iv 0 w.heap.size) (RF e_Str) 1 A1 p_0.Cols.length c1 p_0.Cols ∧ RdS w131 (Iv 0 w.heap.size) (RF e_Idx) 3 A2 p_0.Idxs.length c2 p_0.Idxs ∧ Ex w w131 ∧ loopM (B_i_GoodTable_1 p_0) (p_0.Idxs.length - k91) k91 () = loopM (B_i_GoodTable_1 p_0) (p_0.Idxs.length - 0) 0 ()) (p_0.Idxs.length - 0) ?_ ?_)))
      ·exact ⟨0, rfl, (by omega), Nat.le_refl _, rfl, rfl, rfl, rfl, hf51, hf52, hf53, hf54, rfl⟩
      ·rintro m132 L133 w134 ⟨k91, rfl, hk135, hsz137, hl138, hl139, hl140, hl141, hf142, hf143, hf144, hf145, hI136⟩
       refine CW.sub (Sub.cons hl138 (Sub.cons hl139 (Sub.cons hl140 (Sub.cons hl141 (Sub.nil _))))) ?_
       have hf142z := Box.lt hf142
       have hf145z := Ex.size hf145
       have hbg146 := RdS.big hf144
       rcases Nat.lt_or_ge k91 p_0.Idxs.length with hlt147 | hlt147
       ·refine CW.seq (CW.region (sd rfl (yl_lss rfl rfl rfl (SeqR.done (tn (CW.seq (CW.cond_t rfl (lt_t hlt147) (CW.skip (tn ?_)))))))))
        refine CW.seq (CW.block (CW.seq (CW.region (sd rfl (yl_move rfl rfl ?_)))))
        obtain ⟨eb148, eo148, ec148, eA148, eS148, ebl148, el148, eR148, eC148⟩ := RdS.atD hf144 d_Idx (i := k91) (by first | omega | assumption)
        obtain rfl := eR148
        have eC148 : Cells w134 eb148 (eo148 + k91 * 3) [.string (bs ((p_0.Idxs.getD k91 d_Idx).Name)), .int .i64 ((p_0.Idxs.getD k91 d_Idx).Col), .int .i64 ((p_0.Idxs.getD k91 d_Idx).Stage)] := eC148
        refine sd rfl (yl_indexAddrN Try.un33 Try.ty132 rfl rfl rfl eA148 (by first | omega | assumption | (simp only [IntKind.wrap_i64] at *; omega)) (sd rfl (yl_loadN (cs := [.string (bs ((p_0.Idxs.getD k91 d_Idx).Name)), .int .i64 ((p_0.Idxs.getD k91 d_Idx).Col), .int .i64 ((p_0.Idxs.getD k91 d_Idx).Stage)]) Try.ty132 rfl rfl eC148 rfl (sd rfl (yl_alloc Try.ty132 (cs := [.string (bs (([] : Str))), .int .i64 (0), .int .i64 (0)]) rfl rfl ?_)))))
        intro b149 w150 hs151 hz152 hB153 hE154
        refine sd rfl (yl_assign rfl rfl (SeqR.u rfl rfl (yl_store (vs := [.string (bs ((p_0.Idxs.getD k91 d_Idx).Name)), .int .i64 ((p_0.Idxs.getD k91 d_Idx).Col), .int .i64 ((p_0.Idxs.getD k91 d_Idx).Stage)]) Try.ty132 rfl rfl rfl rfl rfl rfl hB153 (Nat.le_of_ble_eq_true rfl) ?_)))
        intro w155 hB156 hO157
        have hB156 : Box w155 b149 132 [.string (bs ((p_0.Idxs.getD k91 d_Idx).Name)), .int .i64 ((p_0.Idxs.getD k91 d_Idx).Col), .int .i64 ((p_0.Idxs.getD k91 d_Idx).Stage)] := hB156
        have hO157z := hO157.size
        refine SeqR.done (tn (CW.seq (bcase (i_areLetters ((p_0.Idxs.getD k91 d_Idx).Name) 1) (fun hb159 => ?_) (fun hb159 => ?_))))
        ·refine bcase (i_within ((p_0.Idxs.getD k91 d_Idx).Col) 1 (IntKind.wrap .i64 ((p_0.Cols.length : Int) - 1))) (fun hb164 => ?_) (fun hb164 => ?_)
         ·have hb164p := f_within hb164
          refine bcase (i_isStage ((p_0.Idxs.getD k91 d_Idx).Stage)) (fun hb170 => ?_) (fun hb170 => ?_)
          ·refine bcase (decide (0 < (k91 : Int))) (fun hb176 => ?_) (fun hb176 => ?_)
           ·have hb176p := dec_t hb176
            have q179 := Box.only (Box.ex hf142 hE154) hO157 (by omega)
            have q183 := RdS.only good_Idx (RdS.ex good_Idx hf144 hE154) hO157 (by simp only [Iv]; omega)
            obtain ⟨eb184, eo184, ec184, eA184, eS184, ebl184, el184, eR184, eC184⟩ := RdS.atD q183 d_Idx (i := (IntKind.wrap .i64 ((k91 : Int) - 1)).toNat) (by first | omega | assumption | (simp only [IntKind.wrap_i64] at *; omega))
            obtain rfl := eR184
            have eC184 : Cells w155 eb184 (eo184 + ((IntKind.wrap .i64 ((k91 : Int) - 1)).toNat) * 3) [.string (bs ((p_0.Idxs.getD ((IntKind.wrap .i64 ((k91 : Int) - 1)).toNat) d_Idx).Name)), .int .i64 ((p_0.Idxs.getD ((IntKind.wrap .i64 ((k91 : Int) - 1)).toNat) d_Idx).Col), .int .i64 ((p_0.Idxs.getD ((IntKind.wrap .i64 ((k91 : Int) - 1)).toNat) d_Idx).Stage)] := eC184
            refine CW.drawsI 36 (vgetI [DetI (.pointer (some ⟨b149, 0 + 0, none⟩)), DetI (.string (bs ((p_0.Idxs.getD k91 d_Idx).Name))), DetI (.bool ((i_areLetters ((p_0.Idxs.getD k91 d_Idx).Name) 1))), DetI (.bool (!(i_areLetters ((p_0.Idxs.getD k91 d_Idx).Name) 1))), DetI (.bool (!(i_areLetters ((p_0.Idxs.getD k91 d_Idx).Name) 1))), DetI (.pointer (some ⟨b149, 0 + 1, none⟩)), DetI (.int .i64 ((p_0.Idxs.getD k91 d_Idx).Col)), DetI (.pointer (some ⟨b7, 0 + 1, none⟩)), DetI (.slice A1 p_0.Cols.length c1), DetI (.int .i64 ((p_0.Cols.length : Int))), DetI (.int .i64 (IntKind.wrap .i64 ((p_0.Cols.length : Int) - 1))), DetI (.bool ((i_within ((p_0.Idxs.getD k91 d_Idx).Col) 1 (IntKind.wrap .i64 ((p_0.Cols.length : Int) - 1))))), DetI (.bool (!(i_within ((p_0.Idxs.getD k91 d_Idx).Col) 1 (IntKind.wrap .i64 ((p_0.Cols.length : Int) - 1))))), DetI (.bool (!(i_within ((p_0.Idxs.getD k91 d_Idx).Col) 1 (IntKind.wrap .i64 ((p_0.Cols.length : Int) - 1))))), DetI (.bool (!(i_within ((p_0.Idxs.getD k91 d_Idx).Col) 1 (IntKind.wrap .i64 ((p_0.Cols.length : Int) - 1))))), DetI (.pointer (some ⟨b149, 0 + 2, none⟩)), DetI (.int .i64 ((p_0.Idxs.getD k91 d_Idx).Stage)), DetI (.bool ((i_isStage ((p_0.Idxs.getD k91 d_Idx).Stage)))), DetI (.bool (!(i_isStage ((p_0.Idxs.getD k91 d_Idx).Stage)))), DetI (.bool (!(i_isStage ((p_0.Idxs.getD k91 d_Idx).Stage)))), DetI (.bool (!(i_isStage ((p_0.Idxs.getD k91 d_Idx).Stage)))), DetI (.int .i64 ((k91 : Int))), DetI (.bool (decide (0 < (k91 : Int)))), DetI (.bool (decide (0 < (k91 : Int)))), DetI (.pointer (some ⟨b149, 0 + 0, none⟩)), DetI (.string (bs ((p_0.Idxs.getD k91 d_Idx).Name))), DetI (.pointer (some ⟨b7, 0 + 2, none⟩)), DetI (.slice A2 p_0.Idxs.length c2), DetI (.int .i64 ((k91 : Int))), DetI (.int .i64 (IntKind.wrap .i64 ((k91 : Int) - 1))), DetI (.pointer (some ⟨eb184, eo184 + ((IntKind.wrap .i64 ((k91 : Int) - 1)).toNat) * 3, none⟩)), DetI (.pointer (some ⟨eb184, eo184 + ((IntKind.wrap .i64 ((k91 : Int) - 1)).toNat) * 3 + 0, none⟩)), DetI (.string (bs ((p_0.Idxs.getD ((IntKind.wrap .i64 ((k91 : Int) - 1)).toNat) d_Idx).Name))), DetI (.bool (sLe ((p_0.Idxs.getD k91 d_Idx).Name) ((p_0.Idxs.getD ((IntKind.wrap .i64 ((k91 : Int) - 1)).toNat) d_Idx).Name))), DetI (.bool (sLe ((p_0.Idxs.getD k91 d_Idx).Name) ((p_0.Idxs.getD ((IntKind.wrap .i64 ((k91 : Int) - 1)).toNat) d_Idx).Name))), DetI (.bool (sLe ((p_0.Idxs.getD k91 d_Idx).Name) ((p_0.Idxs.getD ((IntKind.wrap .i64 ((k91 : Int) - 1)).toNat) d_Idx).Name)))]) Try.follows rfl rfl rfl rfl rfl rfl (vgetI_stable ⟨StableI.det _, StableI.det _, StableI.det _, StableI.det _, StableI.det _, StableI.det _, StableI.det _, StableI.det _, StableI.det _, StableI.det _, StableI.det _, StableI.det _, StableI.det _, StableI.det _, StableI.det _, StableI.det _, StableI.det _, StableI.det _, StableI.det _, StableI.det _, StableI.det _, StableI.det _, StableI.det _, StableI.det _, StableI.det _, StableI.det _, StableI.det _, StableI.det _, StableI.det _, StableI.det _, StableI.det _, StableI.det _, StableI.det _, StableI.det _, StableI.det _, StableI.det _, trivial⟩) ⟨?_, ?_, ?_, ?_, ?_, ?_, ?_, ?_, ?_, ?_, ?_, ?_, ?_, ?_, ?_, ?_, ?_, ?_, ?_, ?_, ?_, ?_, ?_, ?_, ?_, ?_, ?_, ?_, ?_, ?_, ?_, ?_, ?_, ?_, ?_, ?_, trivial⟩ ?_
            ·exact fun _ _ h => os rfl ((yl_fieldAddr Try.fd132_0 rfl (h.old 6 _ rfl rfl) kI))
            ·exact fun _ _ h => os rfl ((yl_load1 Try.ty9 rfl (h.dt 0 52 rfl rfl rfl) (((Box.ex hB156 h.ex).cell 0).trans rfl) kI))
            ·intro L196 w197 hi198
             refine OpR.op' rfl (yl_call Try.en142 rfl (opvs_cons (hi198.dt 1 53 rfl rfl rfl) (opvs_cons rfl opvs_nil)) (Cal.mono (c_i_areLetters ((p_0.Idxs.getD k91 d_Idx).Name) 1 (okL.getD o3.2.2 ok_d_Idx _)) ?_))
             rintro v202 w201 ⟨rfl, hE203⟩
             exact ⟨rfl, hE203⟩
            ·exact fun _ _ h => os rfl ((yl_not rfl (h.dt 2 54 rfl rfl rfl) kI))
            ·exact fun _ _ h => os rfl ((yl_move rfl (h.dt 3 55 rfl rfl rfl) kI))
            ·exact fun _ _ h => OpR.want rfl rfl (h.dt 4 56 rfl rfl rfl) (not_t hb159) (Yl.sameI (yl_fieldAddr Try.fd132_1 rfl (h.old 6 _ rfl rfl) kI))
            ·exact fun _ _ h => OpR.want rfl rfl (h.dt 4 56 rfl rfl rfl) (not_t hb159) (Yl.sameI (yl_load1 Try.ty3 rfl (h.dt 5 57 rfl rfl rfl) (((Box.ex hB156 h.ex).cell 1).trans rfl) kI))
            ·exact fun _ _ h => OpR.want rfl rfl (h.dt 4 56 rfl rfl rfl) (not_t hb159) (Yl.sameI (yl_fieldAddr Try.fd35_1 rfl (h.old 1 _ rfl rfl) kI))
            ·exact fun _ _ h => OpR.want rfl rfl (h.dt 4 56 rfl rfl rfl) (not_t hb159) (Yl.sameI (yl_load1 Try.ty22 rfl (h.dt 7 59 rfl rfl rfl) (((Box.ex q179 h.ex).cell 1).trans rfl) kI))
            ·exact fun _ _ h => OpR.want rfl rfl (h.dt 4 56 rfl rfl rfl) (not_t hb159) (Yl.sameI (yl_len Try.un22 rfl (h.dt 8 60 rfl rfl rfl) kI))
            ·exact fun _ _ h => OpR.want rfl rfl (h.dt 4 56 rfl rfl rfl) (not_t hb159) (Yl.sameI (yl_sub rfl (h.dt 9 61 rfl rfl rfl) rfl kI))
            ·intro L252 w253 hi254
             refine OpR.want rfl rfl (hi254.dt 4 56 rfl rfl rfl) (not_t hb159) (yl_call Try.en129 rfl (opvs_cons (hi254.dt 6 58 rfl rfl rfl) (opvs_cons rfl (opvs_cons (hi254.dt 10 62 rfl rfl rfl) opvs_nil))) (Cal.mono (c_i_within ((p_0.Idxs.getD k91 d_Idx).Col) 1 (IntKind.wrap .i64 ((p_0.Cols.length : Int) - 1))) ?_))
             rintro v260 w259 ⟨rfl, hE261⟩
             exact ⟨rfl, hE261⟩
            ·exact fun _ _ h => OpR.want rfl rfl (h.dt 4 56 rfl rfl rfl) (not_t hb159) (Yl.sameI (yl_not rfl (h.dt 11 63 rfl rfl rfl) kI))
            ·exact fun _ _ h => os rfl ((yl_pick_f rfl (h.dt 4 56 rfl rfl rfl) (not_t hb159) (h.dt 12 64 rfl rfl rfl) kI))
            ·exact fun _ _ h => os rfl ((yl_move rfl (h.dt 13 65 rfl rfl rfl) kI))
            ·exact fun _ _ h => OpR.want rfl rfl (h.dt 14 66 rfl rfl rfl) (not_t hb164) (Yl.sameI (yl_fieldAddr Try.fd132_2 rfl (h.old 6 _ rfl rfl) kI))
            ·exact fun _ _ h => OpR.want rfl rfl (h.dt 14 66 rfl rfl rfl) (not_t hb164) (Yl.sameI (yl_load1 Try.ty3 rfl (h.dt 15 67 rfl rfl rfl) (((Box.ex hB156 h.ex).cell 2).trans rfl) kI))
            ·intro L292 w293 hi294
             refine OpR.want rfl rfl (hi294.dt 14 66 rfl rfl rfl) (not_t hb164) (yl_call Try.en108 rfl (opvs_cons (hi294.dt 16 68 rfl rfl rfl) opvs_nil) (Cal.mono (c_i_isStage ((p_0.Idxs.getD k91 d_Idx).Stage)) ?_))
             rintro v299 w298 ⟨rfl, hE300⟩
             exact ⟨rfl, hE300⟩
            ·exact fun _ _ h => OpR.want rfl rfl (h.dt 14 66 rfl rfl rfl) (not_t hb164) (Yl.sameI (yl_not rfl (h.dt 17 69 rfl rfl rfl) kI))
            ·exact fun _ _ h => os rfl ((yl_pick_f rfl (h.dt 14 66 rfl rfl rfl) (not_t hb164) (h.dt 18 70 rfl rfl rfl) kI))
            ·exact fun _ _ h => os rfl ((yl_move rfl (h.dt 19 71 rfl rfl rfl) kI))
            ·exact fun _ _ h => OpR.want rfl rfl (h.dt 20 72 rfl rfl rfl) (not_t hb170) (Yl.sameI (yl_move rfl (h.old 5 _ rfl rfl) kI))
            ·exact fun _ _ h => OpR.want rfl rfl (h.dt 20 72 rfl rfl rfl) (not_t hb170) (Yl.sameI (yl_gtr rfl (h.dt 21 73 rfl rfl rfl) rfl kI))
            ·exact fun _ _ h => OpR.want rfl rfl (h.dt 20 72 rfl rfl rfl) (not_t hb170) (Yl.sameI (yl_move rfl (h.dt 22 74 rfl rfl rfl) kI))
            ·exact fun _ _ h => OpR.want rfl rfl (h.dt 23 75 rfl rfl rfl) hb176 (Yl.sameI (yl_fieldAddr Try.fd132_0 rfl (h.old 6 _ rfl rfl) kI))
            ·exact fun _ _ h => OpR.want rfl rfl (h.dt 23 75 rfl rfl rfl) hb176 (Yl.sameI (yl_load1 Try.ty9 rfl (h.dt 24 76 rfl rfl rfl) (((Box.ex hB156 h.ex).cell 0).trans rfl) kI))
            ·exact fun _ _ h => OpR.want rfl rfl (h.dt 23 75 rfl rfl rfl) hb176 (Yl.sameI (yl_fieldAddr Try.fd35_2 rfl (h.old 1 _ rfl rfl) kI))
            ·exact fun _ _ h => OpR.want rfl rfl (h.dt 23 75 rfl rfl rfl) hb176 (Yl.sameI (yl_load1 Try.ty33 rfl (h.dt 26 78 rfl rfl rfl) (((Box.ex q179 h.ex).cell 2).trans rfl) kI))
            ·exact fun _ _ h => OpR.want rfl rfl (h.dt 23 75 rfl rfl rfl) hb176 (Yl.sameI (yl_move rfl (h.old 5 _ rfl rfl) kI))
            ·exact fun _ _ h => OpR.want rfl rfl (h.dt 23 75 rfl rfl rfl) hb176 (Yl.sameI (yl_sub rfl (h.dt 28 80 rfl rfl rfl) rfl kI))
            ·intro L374 w375 hi376
             have hE377 := hi376.ex
             have hE377z := Ex.size hE377
             exact OpR.want rfl rfl (hi376.dt 23 75 rfl rfl rfl) hb176 (Yl.sameI (yl_indexAddr Try.un33 Try.ty132 rfl (hi376.dt 27 79 rfl rfl rfl) (hi376.dt 29 81 rfl rfl rfl) eA184 (by first | omega | assumption | (simp only [IntKind.wrap_i64] at *; omega)) (by first | omega | assumption | (simp only [IntKind.wrap_i64] at *; omega)) kI))
            ·exact fun _ _ h => OpR.want rfl rfl (h.dt 23 75 rfl rfl rfl) hb176 (Yl.sameI (yl_fieldAddr Try.fd132_0 rfl (h.dt 30 82 rfl rfl rfl) kI))
            ·exact fun _ _ h => OpR.want rfl rfl (h.dt 23 75 rfl rfl rfl) hb176 (Yl.sameI (yl_load1 Try.ty9 rfl (h.dt 31 83 rfl rfl rfl) ((Cells.ex eC184 h.ex) 0 _ rfl) kI))
            ·exact fun _ _ h => OpR.want rfl rfl (h.dt 23 75 rfl rfl rfl) hb176 (Yl.sameI (yl_sleq (a := ((p_0.Idxs.getD k91 d_Idx).Name)) (b := ((p_0.Idxs.getD ((IntKind.wrap .i64 ((k91 : Int) - 1)).toNat) d_Idx).Name)) rfl (h.dt 25 77 rfl rfl rfl) (h.dt 32 84 rfl rfl rfl) kI))
            ·exact fun _ _ h => OpR.want rfl rfl (h.dt 20 72 rfl rfl rfl) (not_t hb170) (Yl.sameI (yl_pick_t rfl (h.dt 23 75 rfl rfl rfl) hb176 (h.dt 33 85 rfl rfl rfl) kI))
            ·exact fun _ _ h => os rfl ((yl_pick_f rfl (h.dt 20 72 rfl rfl rfl) (not_t hb170) (h.dt 34 86 rfl rfl rfl) kI))
            ·intro fl417 fh418 L414 w415 hp416
             have hE419 := hp416.ex
             have hE419z := Ex.size hE419
             refine SeqR.done (tn (CW.sub (Sub.cons (d := 1) (hp416.old 1 _ rfl rfl) (Sub.cons (d := 45) (hp416.old 45 _ rfl rfl) (Sub.cons (d := 46) (hp416.old 46 _ rfl rfl) (Sub.cons (d := 47) (hp416.old 47 _ rfl rfl) (Sub.cons (d := 57) (hp416.nt 5 57 rfl rfl rfl) (Sub.cons (d := 58) (hp416.nt 6 58 rfl rfl rfl) (Sub.cons (d := 59) (hp416.nt 7 59 rfl rfl rfl) (Sub.cons (d := 60) (hp416.nt 8 60 rfl rfl rfl) (Sub.cons (d := 61) (hp416.nt 9 61 rfl rfl rfl) (Sub.cons (d := 62) (hp416.nt 10 62 rfl rfl rfl) (Sub.cons (d := 63) (hp416.nt 11 63 rfl rfl rfl) (Sub.cons (d := 64) (hp416.nt 12 64 rfl rfl rfl) (Sub.cons (d := 67) (hp416.nt 15 67 rfl rfl rfl) (Sub.cons (d := 68) (hp416.nt 16 68 rfl rfl rfl) (Sub.cons (d := 69) (hp416.nt 17 69 rfl rfl rfl) (Sub.cons (d := 70) (hp416.nt 18 70 rfl rfl rfl) (Sub.cons (d := 73) (hp416.nt 21 73 rfl rfl rfl) (Sub.cons (d := 74) (hp416.nt 22 74 rfl rfl rfl) (Sub.cons (d := 75) (hp416.nt 23 75 rfl rfl rfl) (Sub.cons (d := 76) (hp416.nt 24 76 rfl rfl rfl) (Sub.cons (d := 77) (hp416.nt 25 77 rfl rfl rfl) (Sub.cons (d := 78) (hp416.nt 26 78 rfl rfl rfl) (Sub.cons (d := 79) (hp416.nt 27 79 rfl rfl rfl) (Sub.cons (d := 80) (hp416.nt 28 80 rfl rfl rfl) (Sub.cons (d := 81) (hp416.nt 29 81 rfl rfl rfl) (Sub.cons (d := 82) (hp416.nt 30 82 rfl rfl rfl) (Sub.cons (d := 83) (hp416.nt 31 83 rfl rfl rfl) (Sub.cons (d := 84) (hp416.nt 32 84 rfl rfl rfl) (Sub.cons (d := 85) (hp416.nt 33 85 rfl rfl rfl) (Sub.cons (d := 86) (hp416.nt 34 86 rfl rfl rfl) (Sub.cons (d := 87) (hp416.nt 35 87 rfl rfl rfl) (Sub.nil _)))))))))))))))))))))))))))))))) ?_))
             refine bcase (sLe ((p_0.Idxs.getD k91 d_Idx).Name) ((p_0.Idxs.getD ((IntKind.wrap .i64 ((k91 : Int) - 1)).toNat) d_Idx).Name)) (fun hb451 => ?_) (fun hb451 => ?_)
             ·refine CW.cond_t rfl hb451 (CW.seq (CW.region (sd rfl (yl_assign rfl rfl (SeqR.done (tn (CW.ret (br (tr ?_)))))))))
              refine tr ?_
              have hB453 : B_i_GoodTable_1 p_0 k91 () = .ret false := by simp only [B_i_GoodTable_1, hb16, hb21, hb23, hb159, hb164, hb170, hb176, hb451, hL90, cond_true, cond_false, loopE_done, loopE_ret]
              have hL452 : loopM (B_i_GoodTable_1 p_0) (p_0.Idxs.length - 0) 0 () = .ret false := hI136.symm.trans (loopM.ret hlt147 hB453)
              refine br (tr (rr rfl (.cons rfl .nil) ?_))
              have hM454 : (i_GoodTable p_0) = (false) := by simp only [i_GoodTable, hb16, hb21, hb23, hb159, hb164, hb170, hb176, hb451, hL90, hL452, cond_true, cond_false, loopE_done, loopE_ret]
              rw [hM454]
              exact ⟨rfl, (Ex.trans (Below.only (Ex.trans hf145 hE154) hO157 (by omega)) hE419)⟩
             ·refine CW.cond_f rfl hb451 (CW.skip (bn (tn (CW.region (sd rfl (yl_inc rfl rfl rfl (by omega) (sd rfl (yl_move rfl rfl (SeqR.done (tn ?_))))))))))
              have hB458 : B_i_GoodTable_1 p_0 k91 () = .cont () := by simp only [B_i_GoodTable_1, hb16, hb21, hb23, hb159, hb164, hb170, hb176, hb451, hL90, cond_true, cond_false, loopE_done, loopE_ret]
              exact ⟨p_0.Idxs.length - (k91 + 1), by omega, k91 + 1, rfl, hlt147, (by omega), rfl, rfl, rfl, rfl, (Box.ex q179 hE419), (RdS.ex good_Str (RdS.only good_Str (RdS.ex good_Str hf143 hE154) hO157 (by simp only [Iv]; omega)) hE419), (RdS.ex good_Idx q183 hE419), (Ex.trans (Below.only (Ex.trans hf145 hE154) hO157 (by omega)) hE419), (loopM.cont hlt147 hB458).symm.trans hI136⟩
           ·have hb176p := dec_f hb176
            have q469 := Box.only (Box.ex hf142 hE154) hO157 (by omega)
            refine CW.drawsI 36 (vgetI [DetI (.pointer (some ⟨b149, 0 + 0, none⟩)), DetI (.string (bs ((p_0.Idxs.getD k91 d_Idx).Name))), DetI (.bool ((i_areLetters ((p_0.Idxs.getD k91 d_Idx).Name) 1))), DetI (.bool (!(i_areLetters ((p_0.Idxs.getD k91 d_Idx).Name) 1))), DetI (.bool (!(i_areLetters ((p_0.Idxs.getD k91 d_Idx).Name) 1))), DetI (.pointer (some ⟨b149, 0 + 1, none⟩)), DetI (.int .i64 ((p_0.Idxs.getD k91 d_Idx).Col)), DetI (.pointer (some ⟨b7, 0 + 1, none⟩)), DetI (.slice A1 p_0.Cols.length c1), DetI (.int .i64 ((p_0.Cols.length : Int))), DetI (.int .i64 (IntKind.wrap .i64 ((p_0.Cols.length : Int) - 1))), DetI (.bool ((i_within ((p_0.Idxs.getD k91 d_Idx).Col) 1 (IntKind.wrap .i64 ((p_0.Cols.length : Int) - 1))))), DetI (.bool (!(i_within ((p_0.Idxs.getD k91 d_Idx).Col) 1 (IntKind.wrap .i64 ((p_0.Cols.length : Int) - 1))))), DetI (.bool (!(i_within ((p_0.Idxs.getD k91 d_Idx).Col) 1 (IntKind.wrap .i64 ((p_0.Cols.length : Int) - 1))))), DetI (.bool (!(i_within ((p_0.Idxs.getD k91 d_Idx).Col) 1 (IntKind.wrap .i64 ((p_0.Cols.length : Int) - 1))))), DetI (.pointer (some ⟨b149, 0 + 2, none⟩)), DetI (.int .i64 ((p_0.Idxs.getD k91 d_Idx).Stage)), DetI (.bool ((i_isStage ((p_0.Idxs.getD k91 d_Idx).Stage)))), DetI (.bool (!(i_isStage ((p_0.Idxs.getD k91 d_Idx).Stage)))), DetI (.bool (!(i_isStage ((p_0.Idxs.getD k91 d_Idx).Stage)))), DetI (.bool (!(i_isStage ((p_0.Idxs.getD k91 d_Idx).Stage)))), DetI (.int .i64 ((k91 : Int))), DetI (.bool (decide (0 < (k91 : Int)))), DetI (.bool (decide (0 < (k91 : Int)))), DetI (undef), DetI (undef), DetI (undef), DetI (undef), DetI (undef), DetI (undef), DetI (undef), DetI (undef), DetI (undef), DetI (undef), DetI (.bool (false)), DetI (.bool (false))]) Try.follows rfl rfl rfl rfl rfl rfl (vgetI_stable ⟨StableI.det _, StableI.det _, StableI.det _, StableI.det _, StableI.det _, StableI.det _, StableI.det _, StableI.det _, StableI.det _, StableI.det _, StableI.det _, StableI.det _, StableI.det _, StableI.det _, StableI.det _, StableI.det _, StableI.det _, StableI.det _, StableI.det _, StableI.det _, StableI.det _, StableI.det _, StableI.det _, StableI.det _, StableI.det _, StableI.det _, StableI.det _, StableI.det _, StableI.det _, StableI.det _, StableI.det _, StableI.det _, StableI.det _, StableI.det _, StableI.det _, StableI.det _, trivial⟩) ⟨?_, ?_, ?_, ?_, ?_, ?_, ?_, ?_, ?_, ?_, ?_, ?_, ?_, ?_, ?_, ?_, ?_, ?_, ?_, ?_, ?_, ?_, ?_, ?_, ?_, ?_, ?_, ?_, ?_, ?_, ?_, ?_, ?_, ?_, ?_, ?_, trivial⟩ ?_
            ·exact fun _ _ h => os rfl ((yl_fieldAddr Try.fd132_0 rfl (h.old 6 _ rfl rfl) kI))
            ·exact fun _ _ h => os rfl ((yl_load1 Try.ty9 rfl (h.dt 0 52 rfl rfl rfl) (((Box.ex hB156 h.ex).cell 0).trans rfl) kI))
            ·intro L483 w484 hi485
             refine OpR.op' rfl (yl_call Try.en142 rfl (opvs_cons (hi485.dt 1 53 rfl rfl rfl) (opvs_cons rfl opvs_nil)) (Cal.mono (c_i_areLetters ((p_0.Idxs.getD k91 d_Idx).Name) 1 (okL.getD o3.2.2 ok_d_Idx _)) ?_))
             rintro v489 w488 ⟨rfl, hE490⟩
             exact ⟨rfl, hE490⟩
            ·exact fun _ _ h => os rfl ((yl_not rfl (h.dt 2 54 rfl rfl rfl) kI))
            ·exact fun _ _ h => os rfl ((yl_move rfl (h.dt 3 55 rfl rfl rfl) kI))
            ·exact fun _ _ h => OpR.want rfl rfl (h.dt 4 56 rfl rfl rfl) (not_t hb159) (Yl.sameI (yl_fieldAddr Try.fd132_1 rfl (h.old 6 _ rfl rfl) kI))
            ·exact fun _ _ h => OpR.want rfl rfl (h.dt 4 56 rfl rfl rfl) (not_t hb159) (Yl.sameI (yl_load1 Try.ty3 rfl (h.dt 5 57 rfl rfl rfl) (((Box.ex hB156 h.ex).cell 1).trans rfl) kI))
            ·exact fun _ _ h => OpR.want rfl rfl (h.dt 4 56 rfl rfl rfl) (not_t hb159) (Yl.sameI (yl_fieldAddr Try.fd35_1 rfl (h.old 1 _ rfl rfl) kI))
            ·exact fun _ _ h => OpR.want rfl rfl (h.dt 4 56 rfl rfl rfl) (not_t hb159) (Yl.sameI (yl_load1 Try.ty22 rfl (h.dt 7 59 rfl rfl rfl) (((Box.ex q469 h.ex).cell 1).trans rfl) kI))
            ·exact fun _ _ h => OpR.want rfl rfl (h.dt 4 56 rfl rfl rfl) (not_t hb159) (Yl.sameI (yl_len Try.un22 rfl (h.dt 8 60 rfl rfl rfl) kI))
            ·exact fun _ _ h => OpR.want rfl rfl (h.dt 4 56 rfl rfl rfl) (not_t hb159) (Yl.sameI (yl_sub rfl (h.dt 9 61 rfl rfl rfl) rfl kI))
            ·intro L539 w540 hi541
             refine OpR.want rfl rfl (hi541.dt 4 56 rfl rfl rfl) (not_t hb159) (yl_call Try.en129 rfl (opvs_cons (hi541.dt 6 58 rfl rfl rfl) (opvs_cons rfl (opvs_cons (hi541.dt 10 62 rfl rfl rfl) opvs_nil))) (Cal.mono (c_i_within ((p_0.Idxs.getD k91 d_Idx).Col) 1 (IntKind.wrap .i64 ((p_0.Cols.length : Int) - 1))) ?_))
             rintro v547 w546 ⟨rfl, hE548⟩
             exact ⟨rfl, hE548⟩
            ·exact fun _ _ h => OpR.want rfl rfl (h.dt 4 56 rfl rfl rfl) (not_t hb159) (Yl.sameI (yl_not rfl (h.dt 11 63 rfl rfl rfl) kI))
            ·exact fun _ _ h => os rfl ((yl_pick_f rfl (h.dt 4 56 rfl rfl rfl) (not_t hb159) (h.dt 12 64 rfl rfl rfl) kI))
            ·exact fun _ _ h => os rfl ((yl_move rfl (h.dt 13 65 rfl rfl rfl) kI))
            ·exact fun _ _ h => OpR.want rfl rfl (h.dt 14 66 rfl rfl rfl) (not_t hb164) (Yl.sameI (yl_fieldAddr Try.fd132_2 rfl (h.old 6 _ rfl rfl) kI))
            ·exact fun _ _ h => OpR.want rfl rfl (h.dt 14 66 rfl rfl rfl) (not_t hb164) (Yl.sameI (yl_load1 Try.ty3 rfl (h.dt 15 67 rfl rfl rfl) (((Box.ex hB156 h.ex).cell 2).trans rfl) kI))
            ·intro L579 w580 hi581
             refine OpR.want rfl rfl (hi581.dt 14 66 rfl rfl rfl) (not_t hb164) (yl_call Try.en108 rfl (opvs_cons (hi581.dt 16 68 rfl rfl rfl) opvs_nil) (Cal.mono (c_i_isStage ((p_0.Idxs.getD k91 d_Idx).Stage)) ?_))
             rintro v586 w585 ⟨rfl, hE587⟩
             exact ⟨rfl, hE587⟩
            ·exact fun _ _ h => OpR.want rfl rfl (h.dt 14 66 rfl rfl rfl) (not_t hb164) (Yl.sameI (yl_not rfl (h.dt 17 69 rfl rfl rfl) kI))
            ·exact fun _ _ h => os rfl ((yl_pick_f rfl (h.dt 14 66 rfl rfl rfl) (not_t hb164) (h.dt 18 70 rfl rfl rfl) kI))
            ·exact fun _ _ h => os rfl ((yl_move rfl (h.dt 19 71 rfl rfl rfl) kI))
            ·exact fun _ _ h => OpR.want rfl rfl (h.dt 20 72 rfl rfl rfl) (not_t hb170) (Yl.sameI (yl_move rfl (h.old 5 _ rfl rfl) kI))
            ·exact fun _ _ h => OpR.want rfl rfl (h.dt 20 72 rfl rfl rfl) (not_t hb170) (Yl.sameI (yl_gtr rfl (h.dt 21 73 rfl rfl rfl) rfl kI))
            ·exact fun _ _ h => OpR.want rfl rfl (h.dt 20 72 rfl rfl rfl) (not_t hb170) (Yl.sameI (yl_move rfl (h.dt 22 74 rfl rfl rfl) kI))
            ·exact fun _ _ h => OpR.skip rfl rfl (h.dt 23 75 rfl rfl rfl) hb176 ⟨rfl, Ex.refl _⟩
            ·exact fun _ _ h => OpR.skip rfl rfl (h.dt 23 75 rfl rfl rfl) hb176 ⟨rfl, Ex.refl _⟩
            ·exact fun _ _ h => OpR.skip rfl rfl (h.dt 23 75 rfl rfl rfl) hb176 ⟨rfl, Ex.refl _⟩
            ·exact fun _ _ h => OpR.skip rfl rfl (h.dt 23 75 rfl rfl rfl) hb176 ⟨rfl, Ex.refl _⟩
            ·exact fun _ _ h => OpR.skip rfl rfl (h.dt 23 75 rfl rfl rfl) hb176 ⟨rfl, Ex.refl _⟩
            ·exact fun _ _ h => OpR.skip rfl rfl (h.dt 23 75 rfl rfl rfl) hb176 ⟨rfl, Ex.refl _⟩
            ·exact fun _ _ h => OpR.skip rfl rfl (h.dt 23 75 rfl rfl rfl) hb176 ⟨rfl, Ex.refl _⟩
            ·exact fun _ _ h => OpR.skip rfl rfl (h.dt 23 75 rfl rfl rfl) hb176 ⟨rfl, Ex.refl _⟩
            ·exact fun _ _ h => OpR.skip rfl rfl (h.dt 23 75 rfl rfl rfl) hb176 ⟨rfl, Ex.refl _⟩
            ·exact fun _ _ h => OpR.skip rfl rfl (h.dt 23 75 rfl rfl rfl) hb176 ⟨rfl, Ex.refl _⟩
            ·exact fun _ _ h => OpR.want rfl rfl (h.dt 20 72 rfl rfl rfl) (not_t hb170) (Yl.sameI (yl_pick_f rfl (h.dt 23 75 rfl rfl rfl) hb176 rfl kI))
            ·exact fun _ _ h => os rfl ((yl_pick_f rfl (h.dt 20 72 rfl rfl rfl) (not_t hb170) (h.dt 34 86 rfl rfl rfl) kI))
            ·intro fl689 fh690 L686 w687 hp688
             have hE691 := hp688.ex
             have hE691z := Ex.size hE691
             refine SeqR.done (tn (CW.sub (Sub.cons (d := 1) (hp688.old 1 _ rfl rfl) (Sub.cons (d := 45) (hp688.old 45 _ rfl rfl) (Sub.cons (d := 46) (hp688.old 46 _ rfl rfl) (Sub.cons (d := 47) (hp688.old 47 _ rfl rfl) (Sub.cons (d := 57) (hp688.nt 5 57 rfl rfl rfl) (Sub.cons (d := 58) (hp688.nt 6 58 rfl rfl rfl) (Sub.cons (d := 59) (hp688.nt 7 59 rfl rfl rfl) (Sub.cons (d := 60) (hp688.nt 8 60 rfl rfl rfl) (Sub.cons (d := 61) (hp688.nt 9 61 rfl rfl rfl) (Sub.cons (d := 62) (hp688.nt 10 62 rfl rfl rfl) (Sub.cons (d := 63) (hp688.nt 11 63 rfl rfl rfl) (Sub.cons (d := 64) (hp688.nt 12 64 rfl rfl rfl) (Sub.cons (d := 67) (hp688.nt 15 67 rfl rfl rfl) (Sub.cons (d := 68) (hp688.nt 16 68 rfl rfl rfl) (Sub.cons (d := 69) (hp688.nt 17 69 rfl rfl rfl) (Sub.cons (d := 70) (hp688.nt 18 70 rfl rfl rfl) (Sub.cons (d := 73) (hp688.nt 21 73 rfl rfl rfl) (Sub.cons (d := 74) (hp688.nt 22 74 rfl rfl rfl) (Sub.cons (d := 75) (hp688.nt 23 75 rfl rfl rfl) (Sub.cons (d := 76) (hp688.nt 24 76 rfl rfl rfl) (Sub.cons (d := 77) (hp688.nt 25 77 rfl rfl rfl) (Sub.cons (d := 78) (hp688.nt 26 78 rfl rfl rfl) (Sub.cons (d := 79) (hp688.nt 27 79 rfl rfl rfl) (Sub.cons (d := 80) (hp688.nt 28 80 rfl rfl rfl) (Sub.cons (d := 81) (hp688.nt 29 81 rfl rfl rfl) (Sub.cons (d := 82) (hp688.nt 30 82 rfl rfl rfl) (Sub.cons (d := 83) (hp688.nt 31 83 rfl rfl rfl) (Sub.cons (d := 84) (hp688.nt 32 84 rfl rfl rfl) (Sub.cons (d := 85) (hp688.nt 33 85 rfl rfl rfl) (Sub.cons (d := 86) (hp688.nt 34 86 rfl rfl rfl) (Sub.cons (d := 87) (hp688.nt 35 87 rfl rfl rfl) (Sub.nil _)))))))))))))))))))))))))))))))) ?_))
             refine CW.cond_f rfl rfl (CW.skip (bn (tn (CW.region (sd rfl (yl_inc rfl rfl rfl (by omega) (sd rfl (yl_move rfl rfl (SeqR.done (tn ?_))))))))))
             have hB723 : B_i_GoodTable_1 p_0 k91 () = .cont () := by simp only [B_i_GoodTable_1, hb16, hb21, hb23, hb159, hb164, hb170, hb176, hL90, cond_true, cond_false, loopE_done, loopE_ret]
             exact ⟨p_0.Idxs.length - (k91 + 1), by omega, k91 + 1, rfl, hlt147, (by omega), rfl, rfl, rfl, rfl, (Box.ex q469 hE691), (RdS.ex good_Str (RdS.only good_Str (RdS.ex good_Str hf143 hE154) hO157 (by simp only [Iv]; omega)) hE691), (RdS.ex good_Idx (RdS.only good_Idx (RdS.ex good_Idx hf144 hE154) hO157 (by simp only [Iv]; omega)) hE691), (Ex.trans (Below.only (Ex.trans hf145 hE154) hO157 (by omega)) hE691), (loopM.cont hlt147 hB723).symm.trans hI136⟩
          ·refine CW.drawsI 36 (vgetI [DetI (.pointer (some ⟨b149, 0 + 0, none⟩)), DetI (.string (bs ((p_0.Idxs.getD k91 d_Idx).Name))), DetI (.bool ((i_areLetters ((p_0.Idxs.getD k91 d_Idx).Name) 1))), DetI (.bool (!(i_areLetters ((p_0.Idxs.getD k91 d_Idx).Name) 1))), DetI (.bool (!(i_areLetters ((p_0.Idxs.getD k91 d_Idx).Name) 1))), DetI (.pointer (some ⟨b149, 0 + 1, none⟩)), DetI (.int .i64 ((p_0.Idxs.getD k91 d_Idx).Col)), DetI (.pointer (some ⟨b7, 0 + 1, none⟩)), DetI (.slice A1 p_0.Cols.length c1), DetI (.int .i64 ((p_0.Cols.length : Int))), DetI (.int .i64 (IntKind.wrap .i64 ((p_0.Cols.length : Int) - 1))), DetI (.bool ((i_within ((p_0.Idxs.getD k91 d_Idx).Col) 1 (IntKind.wrap .i64 ((p_0.Cols.length : Int) - 1))))), DetI (.bool (!(i_within ((p_0.Idxs.getD k91 d_Idx).Col) 1 (IntKind.wrap .i64 ((p_0.Cols.length : Int) - 1))))), DetI (.bool (!(i_within ((p_0.Idxs.getD k91 d_Idx).Col) 1 (IntKind.wrap .i64 ((p_0.Cols.length : Int) - 1))))), DetI (.bool (!(i_within ((p_0.Idxs.getD k91 d_Idx).Col) 1 (IntKind.wrap .i64 ((p_0.Cols.length : Int) - 1))))), DetI (.pointer (some ⟨b149, 0 + 2, none⟩)), DetI (.int .i64 ((p_0.Idxs.getD k91 d_Idx).Stage)), DetI (.bool ((i_isStage ((p_0.Idxs.getD k91 d_Idx).Stage)))), DetI (.bool (!(i_isStage ((p_0.Idxs.getD k91 d_Idx).Stage)))), DetI (.bool (!(i_isStage ((p_0.Idxs.getD k91 d_Idx).Stage)))), DetI (.bool (!(i_isStage ((p_0.Idxs.getD k91 d_Idx).Stage)))), DetI (undef), DetI (undef), DetI (undef), DetI (undef), DetI (undef), DetI (undef), DetI (undef), DetI (undef), DetI (undef), DetI (undef), DetI (undef), DetI (undef), DetI (undef), DetI (undef), DetI (.bool (true))]) Try.follows rfl rfl rfl rfl rfl rfl (vgetI_stable ⟨StableI.det _, StableI.det _, StableI.det _, StableI.det _, StableI.det _, StableI.det _, StableI.det _, StableI.det _, StableI.det _, StableI.det _, StableI.det _, StableI.det _, StableI.det _, StableI.det _, StableI.det _, StableI.det _, StableI.det _, StableI.det _, StableI.det _, StableI.det _, StableI.det _, StableI.det _, StableI.det _, StableI.det _, StableI.det _, StableI.det _, StableI.det _, StableI.det _, StableI.det _, StableI.det _, StableI.det _, StableI.det _, StableI.det _, StableI.det _, StableI.det _, StableI.det _, trivial⟩) ⟨?_, ?_, ?_, ?_, ?_, ?_, ?_, ?_, ?_, ?_, ?_, ?_, ?_, ?_, ?_, ?_, ?_, ?_, ?_, ?_, ?_, ?_, ?_, ?_, ?_, ?_, ?_, ?_, ?_, ?_, ?_, ?_, ?_, ?_, ?_, ?_, trivial⟩ ?_
           ·exact fun _ _ h => os rfl ((yl_fieldAddr Try.fd132_0 rfl (h.old 6 _ rfl rfl) kI))
           ·exact fun _ _ h => os rfl ((yl_load1 Try.ty9 rfl (h.dt 0 52 rfl rfl rfl) (((Box.ex hB156 h.ex).cell 0).trans rfl) kI))
           ·intro L750 w751 hi752
            refine OpR.op' rfl (yl_call Try.en142 rfl (opvs_cons (hi752.dt 1 53 rfl rfl rfl) (opvs_cons rfl opvs_nil)) (Cal.mono (c_i_areLetters ((p_0.Idxs.getD k91 d_Idx).Name) 1 (okL.getD o3.2.2 ok_d_Idx _)) ?_))
            rintro v756 w755 ⟨rfl, hE757⟩
            exact ⟨rfl, hE757⟩
           ·exact fun _ _ h => os rfl ((yl_not rfl (h.dt 2 54 rfl rfl rfl) kI))
           ·exact fun _ _ h => os rfl ((yl_move rfl (h.dt 3 55 rfl rfl rfl) kI))
           ·exact fun _ _ h => OpR.want rfl rfl (h.dt 4 56 rfl rfl rfl) (not_t hb159) (Yl.sameI (yl_fieldAddr Try.fd132_1 rfl (h.old 6 _ rfl rfl) kI))
           ·exact fun _ _ h => OpR.want rfl rfl (h.dt 4 56 rfl rfl rfl) (not_t hb159) (Yl.sameI (yl_load1 Try.ty3 rfl (h.dt 5 57 rfl rfl rfl) (((Box.ex hB156 h.ex).cell 1).trans rfl) kI))
           ·exact fun _ _ h => OpR.want rfl rfl (h.dt 4 56 rfl rfl rfl) (not_t hb159) (Yl.sameI (yl_fieldAddr Try.fd35_1 rfl (h.old 1 _ rfl rfl) kI))
           ·intro L787 w788 hi789
            have hE790 := hi789.ex
            have hE790z := Ex.size hE790
            exact OpR.want rfl rfl (hi789.dt 4 56 rfl rfl rfl) (not_t hb159) (Yl.sameI (yl_load1 Try.ty22 rfl (hi789.dt 7 59 rfl rfl rfl) (((Box.ex (Box.only (Box.ex hf142 hE154) hO157 (by omega)) hE790).cell 1).trans rfl) kI))
           ·exact fun _ _ h => OpR.want rfl rfl (h.dt 4 56 rfl rfl rfl) (not_t hb159) (Yl.sameI (yl_len Try.un22 rfl (h.dt 8 60 rfl rfl rfl) kI))
           ·exact fun _ _ h => OpR.want rfl rfl (h.dt 4 56 rfl rfl rfl) (not_t hb159) (Yl.sameI (yl_sub rfl (h.dt 9 61 rfl rfl rfl) rfl kI))
           ·intro L806 w807 hi808
            refine OpR.want rfl rfl (hi808.dt 4 56 rfl rfl rfl) (not_t hb159) (yl_call Try.en129 rfl (opvs_cons (hi808.dt 6 58 rfl rfl rfl) (opvs_cons rfl (opvs_cons (hi808.dt 10 62 rfl rfl rfl) opvs_nil))) (Cal.mono (c_i_within ((p_0.Idxs.getD k91 d_Idx).Col) 1 (IntKind.wrap .i64 ((p_0.Cols.length : Int) - 1))) ?_))
            rintro v814 w813 ⟨rfl, hE815⟩
            exact ⟨rfl, hE815⟩
           ·exact fun _ _ h => OpR.want rfl rfl (h.dt 4 56 rfl rfl rfl) (not_t hb159) (Yl.sameI (yl_not rfl (h.dt 11 63 rfl rfl rfl) kI))
           ·exact fun _ _ h => os rfl ((yl_pick_f rfl (h.dt 4 56 rfl rfl rfl) (not_t hb159) (h.dt 12 64 rfl rfl rfl) kI))
           ·exact fun _ _ h => os rfl ((yl_move rfl (h.dt 13 65 rfl rfl rfl) kI))
           ·exact fun _ _ h => OpR.want rfl rfl (h.dt 14 66 rfl rfl rfl) (not_t hb164) (Yl.sameI (yl_fieldAddr Try.fd132_2 rfl (h.old 6 _ rfl rfl) kI))
           ·exact fun _ _ h => OpR.want rfl rfl (h.dt 14 66 rfl rfl rfl) (not_t hb164) (Yl.sameI (yl_load1 Try.ty3 rfl (h.dt 15 67 rfl rfl rfl) (((Box.ex hB156 h.ex).cell 2).trans rfl) kI))
           ·intro L846 w847 hi848
            refine OpR.want rfl rfl (hi848.dt 14 66 rfl rfl rfl) (not_t hb164) (yl_call Try.en108 rfl (opvs_cons (hi848.dt 16 68 rfl rfl rfl) opvs_nil) (Cal.mono (c_i_isStage ((p_0.Idxs.getD k91 d_Idx).Stage)) ?_))
            rintro v853 w852 ⟨rfl, hE854⟩
            exact ⟨rfl, hE854⟩
           ·exact fun _ _ h => OpR.want rfl rfl (h.dt 14 66 rfl rfl rfl) (not_t hb164) (Yl.sameI (yl_not rfl (h.dt 17 69 rfl rfl rfl) kI))
           ·exact fun _ _ h => os rfl ((yl_pick_f rfl (h.dt 14 66 rfl rfl rfl) (not_t hb164) (h.dt 18 70 rfl rfl rfl) kI))
           ·exact fun _ _ h => os rfl ((yl_move rfl (h.dt 19 71 rfl rfl rfl) kI))
           ·exact fun _ _ h => OpR.skip rfl rfl (h.dt 20 72 rfl rfl rfl) (not_f hb170) ⟨rfl, Ex.refl _⟩
           ·exact fun _ _ h => OpR.skip rfl rfl (h.dt 20 72 rfl rfl rfl) (not_f hb170) ⟨rfl, Ex.refl _⟩
           ·exact fun _ _ h => OpR.skip rfl rfl (h.dt 20 72 rfl rfl rfl) (not_f hb170) ⟨rfl, Ex.refl _⟩
           ·exact fun _ _ h => OpR.undef rfl rfl (h.dt 23 75 rfl rfl rfl) ⟨rfl, Ex.refl _⟩
           ·exact fun _ _ h => OpR.undef rfl rfl (h.dt 23 75 rfl rfl rfl) ⟨rfl, Ex.refl _⟩
           ·exact fun _ _ h => OpR.undef rfl rfl (h.dt 23 75 rfl rfl rfl) ⟨rfl, Ex.refl _⟩
           ·exact fun _ _ h => OpR.undef rfl rfl (h.dt 23 75 rfl rfl rfl) ⟨rfl, Ex.refl _⟩
           ·exact fun _ _ h => OpR.undef rfl rfl (h.dt 23 75 rfl rfl rfl) ⟨rfl, Ex.refl _⟩
           ·exact fun _ _ h => OpR.undef rfl rfl (h.dt 23 75 rfl rfl rfl) ⟨rfl, Ex.refl _⟩
           ·exact fun _ _ h => OpR.undef rfl rfl (h.dt 23 75 rfl rfl rfl) ⟨rfl, Ex.refl _⟩
           ·exact fun _ _ h => OpR.undef rfl rfl (h.dt 23 75 rfl rfl rfl) ⟨rfl, Ex.refl _⟩
           ·exact fun _ _ h => OpR.undef rfl rfl (h.dt 23 75 rfl rfl rfl) ⟨rfl, Ex.refl _⟩
           ·exact fun _ _ h => OpR.undef rfl rfl (h.dt 23 75 rfl rfl rfl) ⟨rfl, Ex.refl _⟩
           ·exact fun _ _ h => OpR.skip rfl rfl (h.dt 20 72 rfl rfl rfl) (not_f hb170) ⟨rfl, Ex.refl _⟩
           ·exact fun _ _ h => os rfl ((yl_pick_t rfl (h.dt 20 72 rfl rfl rfl) (not_f hb170) rfl kI))
           ·intro fl951 fh952 L948 w949 hp950
            have hE953 := hp950.ex
            have hE953z := Ex.size hE953
            refine SeqR.done (tn (CW.sub (Sub.cons (d := 1) (hp950.old 1 _ rfl rfl) (Sub.cons (d := 45) (hp950.old 45 _ rfl rfl) (Sub.cons (d := 46) (hp950.old 46 _ rfl rfl) (Sub.cons (d := 47) (hp950.old 47 _ rfl rfl) (Sub.cons (d := 57) (hp950.nt 5 57 rfl rfl rfl) (Sub.cons (d := 58) (hp950.nt 6 58 rfl rfl rfl) (Sub.cons (d := 59) (hp950.nt 7 59 rfl rfl rfl) (Sub.cons (d := 60) (hp950.nt 8 60 rfl rfl rfl) (Sub.cons (d := 61) (hp950.nt 9 61 rfl rfl rfl) (Sub.cons (d := 62) (hp950.nt 10 62 rfl rfl rfl) (Sub.cons (d := 63) (hp950.nt 11 63 rfl rfl rfl) (Sub.cons (d := 64) (hp950.nt 12 64 rfl rfl rfl) (Sub.cons (d := 67) (hp950.nt 15 67 rfl rfl rfl) (Sub.cons (d := 68) (hp950.nt 16 68 rfl rfl rfl) (Sub.cons (d := 69) (hp950.nt 17 69 rfl rfl rfl) (Sub.cons (d := 70) (hp950.nt 18 70 rfl rfl rfl) (Sub.cons (d := 73) (hp950.nt 21 73 rfl rfl rfl) (Sub.cons (d := 74) (hp950.nt 22 74 rfl rfl rfl) (Sub.cons (d := 75) (hp950.nt 23 75 rfl rfl rfl) (Sub.cons (d := 76) (hp950.nt 24 76 rfl rfl rfl) (Sub.cons (d := 77) (hp950.nt 25 77 rfl rfl rfl) (Sub.cons (d := 78) (hp950.nt 26 78 rfl rfl rfl) (Sub.cons (d := 79) (hp950.nt 27 79 rfl rfl rfl) (Sub.cons (d := 80) (hp950.nt 28 80 rfl rfl rfl) (Sub.cons (d := 81) (hp950.nt 29 81 rfl rfl rfl) (Sub.cons (d := 82) (hp950.nt 30 82 rfl rfl rfl) (Sub.cons (d := 83) (hp950.nt 31 83 rfl rfl rfl) (Sub.cons (d := 84) (hp950.nt 32 84 rfl rfl rfl) (Sub.cons (d := 85) (hp950.nt 33 85 rfl rfl rfl) (Sub.cons (d := 86) (hp950.nt 34 86 rfl rfl rfl) (Sub.cons (d := 87) (hp950.nt 35 87 rfl rfl rfl) (Sub.nil _)))))))))))))))))))))))))))))))) ?_))
            refine CW.cond_t rfl rfl (CW.seq (CW.region (sd rfl (yl_assign rfl rfl (SeqR.done (tn (CW.ret (br (tr ?_)))))))))
            refine tr ?_
            have hB986 : B_i_GoodTable_1 p_0 k91 () = .ret false := by simp only [B_i_GoodTable_1, hb16, hb21, hb23, hb159, hb164, hb170, hL90, cond_true, cond_false, loopE_done, loopE_ret]
            have hL985 : loopM (B_i_GoodTable_1 p_0) (p_0.Idxs.length - 0) 0 () = .ret false := hI136.symm.trans (loopM.ret hlt147 hB986)
            refine br (tr (rr rfl (.cons rfl .nil) ?_))
            have hM987 : (i_GoodTable p_0) = (false) := by simp only [i_GoodTable, hb16, hb21, hb23, hb159, hb164, hb170, hL90, hL985, cond_true, cond_false, loopE_done, loopE_ret]
            rw [hM987]
            exact ⟨rfl, (Ex.trans (Below.only (Ex.trans hf145 hE154) hO157 (by omega)) hE953)⟩
         ·refine CW.drawsI 36 (vgetI [DetI (.pointer (some ⟨b149, 0 + 0, none⟩)), DetI (.string (bs ((p_0.Idxs.getD k91 d_Idx).Name))), DetI (.bool ((i_areLetters ((p_0.Idxs.getD k91 d_Idx).Name) 1))), DetI (.bool (!(i_areLetters ((p_0.Idxs.getD k91 d_Idx).Name) 1))), DetI (.bool (!(i_areLetters ((p_0.Idxs.getD k91 d_Idx).Name) 1))), DetI (.pointer (some ⟨b149, 0 + 1, none⟩)), DetI (.int .i64 ((p_0.Idxs.getD k91 d_Idx).Col)), DetI (.pointer (some ⟨b7, 0 + 1, none⟩)), DetI (.slice A1 p_0.Cols.length c1), DetI (.int .i64 ((p_0.Cols.length : Int))), DetI (.int .i64 (IntKind.wrap .i64 ((p_0.Cols.length : Int) - 1))), DetI (.bool ((i_within ((p_0.Idxs.getD k91 d_Idx).Col) 1 (IntKind.wrap .i64 ((p_0.Cols.length : Int) - 1))))), DetI (.bool (!(i_within ((p_0.Idxs.getD k91 d_Idx).Col) 1 (IntKind.wrap .i64 ((p_0.Cols.length : Int) - 1))))), DetI (.bool (!(i_within ((p_0.Idxs.getD k91 d_Idx).Col) 1 (IntKind.wrap .i64 ((p_0.Cols.length : Int) - 1))))), DetI (.bool (!(i_within ((p_0.Idxs.getD k91 d_Idx).Col) 1 (IntKind.wrap .i64 ((p_0.Cols.length : Int) - 1))))), DetI (undef), DetI (undef), DetI (undef), DetI (undef), DetI (.bool (true)), DetI (.bool (true)), DetI (undef), DetI (undef), DetI (undef), DetI (undef), DetI (undef), DetI (undef), DetI (undef), DetI (undef), DetI (undef), DetI (undef), DetI (undef), DetI (undef), DetI (undef), DetI (undef), DetI (.bool (true))]) Try.follows rfl rfl rfl rfl rfl rfl (vgetI_stable ⟨StableI.det _, StableI.det _, StableI.det _, StableI.det _, StableI.det _, StableI.det _, StableI.det _, StableI.det _, StableI.det _, StableI.det _, StableI.det _, StableI.det _, StableI.det _, StableI.det _, StableI.det _, StableI.det _, StableI.det _, StableI.det _, StableI.det _, StableI.det _, StableI.det _, StableI.det _, StableI.det _, StableI.det _, StableI.det _, StableI.det _, StableI.det _, StableI.det _, StableI.det _, StableI.det _, StableI.det _, StableI.det _, StableI.det _, StableI.det _, StableI.det _, StableI.det _, trivial⟩) ⟨?_, ?_, ?_, ?_, ?_, ?_, ?_, ?_, ?_, ?_, ?_, ?_, ?_, ?_, ?_, ?_, ?_, ?_, ?_, ?_, ?_, ?_, ?_, ?_, ?_, ?_, ?_, ?_, ?_, ?_, ?_, ?_, ?_, ?_, ?_, ?_, trivial⟩ ?_
          ·exact fun _ _ h => os rfl ((yl_fieldAddr Try.fd132_0 rfl (h.old 6 _ rfl rfl) kI))
          ·exact fun _ _ h => os rfl ((yl_load1 Try.ty9 rfl (h.dt 0 52 rfl rfl rfl) (((Box.ex hB156 h.ex).cell 0).trans rfl) kI))
          ·intro L1006 w1007 hi1008
           refine OpR.op' rfl (yl_call Try.en142 rfl (opvs_cons (hi1008.dt 1 53 rfl rfl rfl) (opvs_cons rfl opvs_nil)) (Cal.mono (c_i_areLetters ((p_0.Idxs.getD k91 d_Idx).Name) 1 (okL.getD o3.2.2 ok_d_Idx _)) ?_))
           rintro v1012 w1011 ⟨rfl, hE1013⟩
           exact ⟨rfl, hE1013⟩
          ·exact fun _ _ h => os rfl ((yl_not rfl (h.dt 2 54 rfl rfl rfl) kI))
          ·exact fun _ _ h => os rfl ((yl_move rfl (h.dt 3 55 rfl rfl rfl) kI))
          ·exact fun _ _ h => OpR.want rfl rfl (h.dt 4 56 rfl rfl rfl) (not_t hb159) (Yl.sameI (yl_fieldAddr Try.fd132_1 rfl (h.old 6 _ rfl rfl) kI))
          ·exact fun _ _ h => OpR.want rfl rfl (h.dt 4 56 rfl rfl rfl) (not_t hb159) (Yl.sameI (yl_load1 Try.ty3 rfl (h.dt 5 57 rfl rfl rfl) (((Box.ex hB156 h.ex).cell 1).trans rfl) kI))
          ·exact fun _ _ h => OpR.want rfl rfl (h.dt 4 56 rfl rfl rfl) (not_t hb159) (Yl.sameI (yl_fieldAddr Try.fd35_1 rfl (h.old 1 _ rfl rfl) kI))
          ·intro L1043 w1044 hi1045
           have hE1046 := hi1045.ex
           have hE1046z := Ex.size hE1046
           exact OpR.want rfl rfl (hi1045.dt 4 56 rfl rfl rfl) (not_t hb159) (Yl.sameI (yl_load1 Try.ty22 rfl (hi1045.dt 7 59 rfl rfl rfl) (((Box.ex (Box.only (Box.ex hf142 hE154) hO157 (by omega)) hE1046).cell 1).trans rfl) kI))
          ·exact fun _ _ h => OpR.want rfl rfl (h.dt 4 56 rfl rfl rfl) (not_t hb159) (Yl.sameI (yl_len Try.un22 rfl (h.dt 8 60 rfl rfl rfl) kI))
          ·exact fun _ _ h => OpR.want rfl rfl (h.dt 4 56 rfl rfl rfl) (not_t hb159) (Yl.sameI (yl_sub rfl (h.dt 9 61 rfl rfl rfl) rfl kI))
          ·intro L1062 w1063 hi1064
           refine OpR.want rfl rfl (hi1064.dt 4 56 rfl rfl rfl) (not_t hb159) (yl_call Try.en129 rfl (opvs_cons (hi1064.dt 6 58 rfl rfl rfl) (opvs_cons rfl (opvs_cons (hi1064.dt 10 62 rfl rfl rfl) opvs_nil))) (Cal.mono (c_i_within ((p_0.Idxs.getD k91 d_Idx).Col) 1 (IntKind.wrap .i64 ((p_0.Cols.length : Int) - 1))) ?_))
           rintro v1070 w1069 ⟨rfl, hE1071⟩
           exact ⟨rfl, hE1071⟩
          ·exact fun _ _ h => OpR.want rfl rfl (h.dt 4 56 rfl rfl rfl) (not_t hb159) (Yl.sameI (yl_not rfl (h.dt 11 63 rfl rfl rfl) kI))
          ·exact fun _ _ h => os rfl ((yl_pick_f rfl (h.dt 4 56 rfl rfl rfl) (not_t hb159) (h.dt 12 64 rfl rfl rfl) kI))
          ·exact fun _ _ h => os rfl ((yl_move rfl (h.dt 13 65 rfl rfl rfl) kI))
          ·exact fun _ _ h => OpR.skip rfl rfl (h.dt 14 66 rfl rfl rfl) (not_f hb164) ⟨rfl, Ex.refl _⟩
          ·exact fun _ _ h => OpR.skip rfl rfl (h.dt 14 66 rfl rfl rfl) (not_f hb164) ⟨rfl, Ex.refl _⟩
          ·exact fun _ _ h => OpR.skip rfl rfl (h.dt 14 66 rfl rfl rfl) (not_f hb164) ⟨rfl, Ex.refl _⟩
          ·exact fun _ _ h => OpR.skip rfl rfl (h.dt 14 66 rfl rfl rfl) (not_f hb164) ⟨rfl, Ex.refl _⟩
          ·exact fun _ _ h => os rfl ((yl_pick_t rfl (h.dt 14 66 rfl rfl rfl) (not_f hb164) rfl kI))
          ·exact fun _ _ h => os rfl ((yl_move rfl (h.dt 19 71 rfl rfl rfl) kI))
          ·exact fun _ _ h => OpR.skip rfl rfl (h.dt 20 72 rfl rfl rfl) rfl ⟨rfl, Ex.refl _⟩
          ·exact fun _ _ h => OpR.skip rfl rfl (h.dt 20 72 rfl rfl rfl) rfl ⟨rfl, Ex.refl _⟩
          ·exact fun _ _ h => OpR.skip rfl rfl (h.dt 20 72 rfl rfl rfl) rfl ⟨rfl, Ex.refl _⟩
          ·exact fun _ _ h => OpR.undef rfl rfl (h.dt 23 75 rfl rfl rfl) ⟨rfl, Ex.refl _⟩
          ·exact fun _ _ h => OpR.undef rfl rfl (h.dt 23 75 rfl rfl rfl) ⟨rfl, Ex.refl _⟩
          ·exact fun _ _ h => OpR.undef rfl rfl (h.dt 23 75 rfl rfl rfl) ⟨rfl, Ex.refl _⟩
          ·exact fun _ _ h => OpR.undef rfl rfl (h.dt 23 75 rfl rfl rfl) ⟨rfl, Ex.refl _⟩
          ·exact fun _ _ h => OpR.undef rfl rfl (h.dt 23 75 rfl rfl rfl) ⟨rfl, Ex.refl _⟩
          ·exact fun _ _ h => OpR.undef rfl rfl (h.dt 23 75 rfl rfl rfl) ⟨rfl, Ex.refl _⟩
          ·exact fun _ _ h => OpR.undef rfl rfl (h.dt 23 75 rfl rfl rfl) ⟨rfl, Ex.refl _⟩
          ·exact fun _ _ h => OpR.undef rfl rfl (h.dt 23 75 rfl rfl rfl) ⟨rfl, Ex.refl _⟩
          ·exact fun _ _ h => OpR.undef rfl rfl (h.dt 23 75 rfl rfl rfl) ⟨rfl, Ex.refl _⟩
          ·exact fun _ _ h => OpR.undef rfl rfl (h.dt 23 75 rfl rfl rfl) ⟨rfl, Ex.refl _⟩
          ·exact fun _ _ h => OpR.skip rfl rfl (h.dt 20 72 rfl rfl rfl) rfl ⟨rfl, Ex.refl _⟩
          ·exact fun _ _ h => os rfl ((yl_pick_t rfl (h.dt 20 72 rfl rfl rfl) rfl rfl kI))
          ·intro fl1199 fh1200 L1196 w1197 hp1198
           have hE1201 := hp1198.ex
           have hE1201z := Ex.size hE1201
           refine SeqR.done (tn (CW.sub (Sub.cons (d := 1) (hp1198.old 1 _ rfl rfl) (Sub.cons (d := 45) (hp1198.old 45 _ rfl rfl) (Sub.cons (d := 46) (hp1198.old 46 _ rfl rfl) (Sub.cons (d := 47) (hp1198.old 47 _ rfl rfl) (Sub.cons (d := 57) (hp1198.nt 5 57 rfl rfl rfl) (Sub.cons (d := 58) (hp1198.nt 6 58 rfl rfl rfl) (Sub.cons (d := 59) (hp1198.nt 7 59 rfl rfl rfl) (Sub.cons (d := 60) (hp1198.nt 8 60 rfl rfl rfl) (Sub.cons (d := 61) (hp1198.nt 9 61 rfl rfl rfl) (Sub.cons (d := 62) (hp1198.nt 10 62 rfl rfl rfl) (Sub.cons (d := 63) (hp1198.nt 11 63 rfl rfl rfl) (Sub.cons (d := 64) (hp1198.nt 12 64 rfl rfl rfl) (Sub.cons (d := 67) (hp1198.nt 15 67 rfl rfl rfl) (Sub.cons (d := 68) (hp1198.nt 16 68 rfl rfl rfl) (Sub.cons (d := 69) (hp1198.nt 17 69 rfl rfl rfl) (Sub.cons (d := 70) (hp1198.nt 18 70 rfl rfl rfl) (Sub.cons (d := 73) (hp1198.nt 21 73 rfl rfl rfl) (Sub.cons (d := 74) (hp1198.nt 22 74 rfl rfl rfl) (Sub.cons (d := 75) (hp1198.nt 23 75 rfl rfl rfl) (Sub.cons (d := 76) (hp1198.nt 24 76 rfl rfl rfl) (Sub.cons (d := 77) (hp1198.nt 25 77 rfl rfl rfl) (Sub.cons (d := 78) (hp1198.nt 26 78 rfl rfl rfl) (Sub.cons (d := 79) (hp1198.nt 27 79 rfl rfl rfl) (Sub.cons (d := 80) (hp1198.nt 28 80 rfl rfl rfl) (Sub.cons (d := 81) (hp1198.nt 29 81 rfl rfl rfl) (Sub.cons (d := 82) (hp1198.nt 30 82 rfl rfl rfl) (Sub.cons (d := 83) (hp1198.nt 31 83 rfl rfl rfl) (Sub.cons (d := 84) (hp1198.nt 32 84 rfl rfl rfl) (Sub.cons (d := 85) (hp1198.nt 33 85 rfl rfl rfl) (Sub.cons (d := 86) (hp1198.nt 34 86 rfl rfl rfl) (Sub.cons (d := 87) (hp1198.nt 35 87 rfl rfl rfl) (Sub.nil _)))))))))))))))))))))))))))))))) ?_))
           refine CW.cond_t rfl rfl (CW.seq (CW.region (sd rfl (yl_assign rfl rfl (SeqR.done (tn (CW.ret (br (tr ?_)))))))))
           refine tr ?_
           have hB1234 : B_i_GoodTable_1 p_0 k91 () = .ret false := by simp only [B_i_GoodTable_1, hb16, hb21, hb23, hb159, hb164, hL90, cond_true, cond_false, loopE_done, loopE_ret]
           have hL1233 : loopM (B_i_GoodTable_1 p_0) (p_0.Idxs.length - 0) 0 () = .ret false := hI136.symm.trans (loopM.ret hlt147 hB1234)
           refine br (tr (rr rfl (.cons rfl .nil) ?_))
           have hM1235 : (i_GoodTable p_0) = (false) := by simp only [i_GoodTable, hb16, hb21, hb23, hb159, hb164, hL90, hL1233, cond_true, cond_false, loopE_done, loopE_ret]
           rw [hM1235]
           exact ⟨rfl, (Ex.trans (Below.only (Ex.trans hf145 hE154) hO157 (by omega)) hE1201)⟩
        ·refine CW.drawsI 36 (vgetI [DetI (.pointer (some ⟨b149, 0 + 0, none⟩)), DetI (.string (bs ((p_0.Idxs.getD k91 d_Idx).Name))), DetI (.bool ((i_areLetters ((p_0.Idxs.getD k91 d_Idx).Name) 1))), DetI (.bool (!(i_areLetters ((p_0.Idxs.getD k91 d_Idx).Name) 1))), DetI (.bool (!(i_areLetters ((p_0.Idxs.getD k91 d_Idx).Name) 1))), DetI (undef), DetI (undef), DetI (undef), DetI (undef), DetI (undef), DetI (undef), DetI (undef), DetI (undef), DetI (.bool (true)), DetI (.bool (true)), DetI (undef), DetI (undef), DetI (undef), DetI (undef), DetI (.bool (true)), DetI (.bool (true)), DetI (undef), DetI (undef), DetI (undef), DetI (undef), DetI (undef), DetI (undef), DetI (undef), DetI (undef), DetI (undef), DetI (undef), DetI (undef), DetI (undef), DetI (undef), DetI (undef), DetI (.bool (true))]) Try.follows rfl rfl rfl rfl rfl rfl (vgetI_stable ⟨StableI.det _, StableI.det _, StableI.det _, StableI.det _, StableI.det _, StableI.det _, StableI.det _, StableI.det _, StableI.det _, StableI.det _, StableI.det _, StableI.det _, StableI.det _, StableI.det _, StableI.det _, StableI.det _, StableI.det _, StableI.det _, StableI.det _, StableI.det _, StableI.det _, StableI.det _, StableI.det _, StableI.det _, StableI.det _, StableI.det _, StableI.det _, StableI.det _, StableI.det _, StableI.det _, StableI.det _, StableI.det _, StableI.det _, StableI.det _, StableI.det _, StableI.det _, trivial⟩) ⟨?_, ?_, ?_, ?_, ?_, ?_, ?_, ?_, ?_, ?_, ?_, ?_, ?_, ?_, ?_, ?_, ?_, ?_, ?_, ?_, ?_, ?_, ?_, ?_, ?_, ?_, ?_, ?_, ?_, ?_, ?_, ?_, ?_, ?_, ?_, ?_, trivial⟩ ?_
         ·exact fun _ _ h => os rfl ((yl_fieldAddr Try.fd132_0 rfl (h.old 6 _ rfl rfl) kI))
         ·exact fun _ _ h => os rfl ((yl_load1 Try.ty9 rfl (h.dt 0 52 rfl rfl rfl) (((Box.ex hB156 h.ex).cell 0).trans rfl) kI))
         ·intro L1251 w1252 hi1253
          refine OpR.op' rfl (yl_call Try.en142 rfl (opvs_cons (hi1253.dt 1 53 rfl rfl rfl) (opvs_cons rfl opvs_nil)) (Cal.mono (c_i_areLetters ((p_0.Idxs.getD k91 d_Idx).Name) 1 (okL.getD o3.2.2 ok_d_Idx _)) ?_))
          rintro v1257 w1256 ⟨rfl, hE1258⟩
          exact ⟨rfl, hE1258⟩
         ·exact fun _ _ h => os rfl ((yl_not rfl (h.dt 2 54 rfl rfl rfl) kI))
         ·exact fun _ _ h => os rfl ((yl_move rfl (h.dt 3 55 rfl rfl rfl) kI))
         ·exact fun _ _ h => OpR.skip rfl rfl (h.dt 4 56 rfl rfl rfl) (not_f hb159) ⟨rfl, Ex.refl _⟩
         ·exact fun _ _ h => OpR.skip rfl rfl (h.dt 4 56 rfl rfl rfl) (not_f hb159) ⟨rfl, Ex.refl _⟩
         ·exact fun _ _ h => OpR.skip rfl rfl (h.dt 4 56 rfl rfl rfl) (not_f hb159) ⟨rfl, Ex.refl _⟩
         ·exact fun _ _ h => OpR.skip rfl rfl (h.dt 4 56 rfl rfl rfl) (not_f hb159) ⟨rfl, Ex.refl _⟩
         ·exact fun _ _ h => OpR.skip rfl rfl (h.dt 4 56 rfl rfl rfl) (not_f hb159) ⟨rfl, Ex.refl _⟩
         ·exact fun _ _ h => OpR.skip rfl rfl (h.dt 4 56 rfl rfl rfl) (not_f hb159) ⟨rfl, Ex.refl _⟩
         ·exact fun _ _ h => OpR.skip rfl rfl (h.dt 4 56 rfl rfl rfl) (not_f hb159) ⟨rfl, Ex.refl _⟩
         ·exact fun _ _ h => OpR.skip rfl rfl (h.dt 4 56 rfl rfl rfl) (not_f hb159) ⟨rfl, Ex.refl _⟩
         ·exact fun _ _ h => os rfl ((yl_pick_t rfl (h.dt 4 56 rfl rfl rfl) (not_f hb159) rfl kI))
         ·exact fun _ _ h => os rfl ((yl_move rfl (h.dt 13 65 rfl rfl rfl) kI))
         ·exact fun _ _ h => OpR.skip rfl rfl (h.dt 14 66 rfl rfl rfl) rfl ⟨rfl, Ex.refl _⟩
         ·exact fun _ _ h => OpR.skip rfl rfl (h.dt 14 66 rfl rfl rfl) rfl ⟨rfl, Ex.refl _⟩
         ·exact fun _ _ h => OpR.skip rfl rfl (h.dt 14 66 rfl rfl rfl) rfl ⟨rfl, Ex.refl _⟩
         ·exact fun _ _ h => OpR.skip rfl rfl (h.dt 14 66 rfl rfl rfl) rfl ⟨rfl, Ex.refl _⟩
         ·exact fun _ _ h => os rfl ((yl_pick_t rfl (h.dt 14 66 rfl rfl rfl) rfl rfl kI))
         ·exact fun _ _ h => os rfl ((yl_move rfl (h.dt 19 71 rfl rfl rfl) kI))
         ·exact fun _ _ h => OpR.skip rfl rfl (h.dt 20 72 rfl rfl rfl) rfl ⟨rfl, Ex.refl _⟩
         ·exact fun _ _ h => OpR.skip rfl rfl (h.dt 20 72 rfl rfl rfl) rfl ⟨rfl, Ex.refl _⟩
         ·exact fun _ _ h => OpR.skip rfl rfl (h.dt 20 72 rfl rfl rfl) rfl ⟨rfl, Ex.refl _⟩
         ·exact fun _ _ h => OpR.undef rfl rfl (h.dt 23 75 rfl rfl rfl) ⟨rfl, Ex.refl _⟩
         ·exact fun _ _ h => OpR.undef rfl rfl (h.dt 23 75 rfl rfl rfl) ⟨rfl, Ex.refl _⟩
         ·exact fun _ _ h => OpR.undef rfl rfl (h.dt 23 75 rfl rfl rfl) ⟨rfl, Ex.refl _⟩
         ·exact fun _ _ h => OpR.undef rfl rfl (h.dt 23 75 rfl rfl rfl) ⟨rfl, Ex.refl _⟩
         ·exact fun _ _ h => OpR.undef rfl rfl (h.dt 23 75 rfl rfl rfl) ⟨rfl, Ex.refl _⟩
         ·exact fun _ _ h => OpR.undef rfl rfl (h.dt 23 75 rfl rfl rfl) ⟨rfl, Ex.refl _⟩
         ·exact fun _ _ h => OpR.undef rfl rfl (h.dt 23 75 rfl rfl rfl) ⟨rfl, Ex.refl _⟩
         ·exact fun _ _ h => OpR.undef rfl rfl (h.dt 23 75 rfl rfl rfl) ⟨rfl, Ex.refl _⟩
         ·exact fun _ _ h => OpR.undef rfl rfl (h.dt 23 75 rfl rfl rfl) ⟨rfl, Ex.refl _⟩
         ·exact fun _ _ h => OpR.undef rfl rfl (h.dt 23 75 rfl rfl rfl) ⟨rfl, Ex.refl _⟩
         ·exact fun _ _ h => OpR.skip rfl rfl (h.dt 20 72 rfl rfl rfl) rfl ⟨rfl, Ex.refl _⟩
         ·exact fun _ _ h => os rfl ((yl_pick_t rfl (h.dt 20 72 rfl rfl rfl) rfl rfl kI))
         ·intro fl1430 fh1431 L1427 w1428 hp1429
          have hE1432 := hp1429.ex
          have hE1432z := Ex.size hE1432
          refine SeqR.done (tn (CW.sub (Sub.cons (d := 1) (hp1429.old 1 _ rfl rfl) (Sub.cons (d := 45) (hp1429.old 45 _ rfl rfl) (Sub.cons (d := 46) (hp1429.old 46 _ rfl rfl) (Sub.cons (d := 47) (hp1429.old 47 _ rfl rfl) (Sub.cons (d := 57) (hp1429.nt 5 57 rfl rfl rfl) (Sub.cons (d := 58) (hp1429.nt 6 58 rfl rfl rfl) (Sub.cons (d := 59) (hp1429.nt 7 59 rfl rfl rfl) (Sub.cons (d := 60) (hp1429.nt 8 60 rfl rfl rfl) (Sub.cons (d := 61) (hp1429.nt 9 61 rfl rfl rfl) (Sub.cons (d := 62) (hp1429.nt 10 62 rfl rfl rfl) (Sub.cons (d := 63) (hp1429.nt 11 63 rfl rfl rfl) (Sub.cons (d := 64) (hp1429.nt 12 64 rfl rfl rfl) (Sub.cons (d := 67) (hp1429.nt 15 67 rfl rfl rfl) (Sub.cons (d := 68) (hp1429.nt 16 68 rfl rfl rfl) (Sub.cons (d := 69) (hp1429.nt 17 69 rfl rfl rfl) (Sub.cons (d := 70) (hp1429.nt 18 70 rfl rfl rfl) (Sub.cons (d := 73) (hp1429.nt 21 73 rfl rfl rfl) (Sub.cons (d := 74) (hp1429.nt 22 74 rfl rfl rfl) (Sub.cons (d := 75) (hp1429.nt 23 75 rfl rfl rfl) (Sub.cons (d := 76) (hp1429.nt 24 76 rfl rfl rfl) (Sub.cons (d := 77) (hp1429.nt 25 77 rfl rfl rfl) (Sub.cons (d := 78) (hp1429.nt 26 78 rfl rfl rfl) (Sub.cons (d := 79) (hp1429.nt 27 79 rfl rfl rfl) (Sub.cons (d := 80) (hp1429.nt 28 80 rfl rfl rfl) (Sub.cons (d := 81) (hp1429.nt 29 81 rfl rfl rfl) (Sub.cons (d := 82) (hp1429.nt 30 82 rfl rfl rfl) (Sub.cons (d := 83) (hp1429.nt 31 83 rfl rfl rfl) (Sub.cons (d := 84) (hp1429.nt 32 84 rfl rfl rfl) (Sub.cons (d := 85) (hp1429.nt 33 85 rfl rfl rfl) (Sub.cons (d := 86) (hp1429.nt 34 86 rfl rfl rfl) (Sub.cons (d := 87) (hp1429.nt 35 87 rfl rfl rfl) (Sub.nil _)))))))))))))))))))))))))))))))) ?_))
          refine CW.cond_t rfl rfl (CW.seq (CW.region (sd rfl (yl_assign rfl rfl (SeqR.done (tn (CW.ret (br (tr ?_)))))))))
          refine tr ?_
          have hB1465 : B_i_GoodTable_1 p_0 k91 () = .ret false := by simp only [B_i_GoodTable_1, hb16, hb21, hb23, hb159, hL90, cond_true, cond_false, loopE_done, loopE_ret]
          have hL1464 : loopM (B_i_GoodTable_1 p_0) (p_0.Idxs.length - 0) 0 () = .ret false := hI136.symm.trans (loopM.ret hlt147 hB1465)
          refine br (tr (rr rfl (.cons rfl .nil) ?_))
          have hM1466 : (i_GoodTable p_0) = (false) := by simp only [i_GoodTable, hb16, hb21, hb23, hb159, hL90, hL1464, cond_true, cond_false, loopE_done, loopE_ret]
          rw [hM1466]
          exact ⟨rfl, (Ex.trans (Below.only (Ex.trans hf145 hE154) hO157 (by omega)) hE1432)⟩
       ·refine CW.seq (CW.region (sd rfl (yl_lss rfl rfl rfl (SeqR.done (tn (CW.seq (CW.cond_f rfl (lt_f hlt147) (CW.exit (tx ?_)))))))))
        refine tx ?_
        have hL1470 : loopM (B_i_GoodTable_1 p_0) (p_0.Idxs.length - 0) 0 () = .done () := hI136.symm.trans (loopM.stop hlt147)
        refine bx (tn (CW.seq (CW.region (sd rfl (yl_assign rfl rfl (SeqR.done (tn (CW.ret (rr rfl (.cons rfl .nil) ?_)))))))))
        have hM1471 : (i_GoodTable p_0) = (true) := by simp only [i_GoodTable, hb16, hb21, hb23, hL90, hL1470, cond_true, cond_false, loopE_done, loopE_ret]
        rw [hM1471]
        exact ⟨rfl, hf145⟩
  ·refine sz rfl rfl (not_f hb21) (sz rfl rfl (not_f hb21) (sz rfl rfl (not_f hb21) (sz rfl rfl (not_f hb21) (sd rfl (yl_pick_t rfl rfl (not_f hb21) rfl (SeqR.done (tn (CW.cond_t rfl rfl (CW.seq ?_)))))))))
   refine CW.region (sd rfl (yl_assign rfl rfl (SeqR.done (tn (CW.ret (tr (rr rfl (.cons rfl .nil) ?_)))))))
   have hM1472 : (i_GoodTable p_0) = (false) := by simp only [i_GoodTable, hb16, hb21, cond_true, cond_false, loopE_done, loopE_ret]
   rw [hM1472]
   exact ⟨rfl, (Ex.trans (Ex.trans (Ex.trans (Ex.refl w) hE12) hE15) hE20)⟩
 ·refine sz rfl rfl (not_f hb16) (sz rfl rfl (not_f hb16) (sz rfl rfl (not_f hb16) (sz rfl rfl (not_f hb16) (sz rfl rfl (not_f hb16) (sd rfl (yl_pick_t rfl rfl (not_f hb16) rfl (sd rfl (yl_move rfl rfl (sz rfl rfl rfl (sz rfl rfl rfl ?_))))))))))
  refine sz rfl rfl rfl (sz rfl rfl rfl (sd rfl (yl_pick_t rfl rfl rfl rfl (SeqR.done (tn (CW.cond_t rfl rfl (CW.seq (CW.region (sd rfl (yl_assign rfl rfl ?_))))))))))
  refine SeqR.done (tn (CW.ret (tr (rr rfl (.cons rfl .nil) ?_))))
  have hM1476 : (i_GoodTable p_0) = (false) := by simp only [i_GoodTable, hb16, cond_true, cond_false, loopE_done, loopE_ret]
  rw [hM1476]
  exact ⟨rfl, (Ex.trans (Ex.trans (Ex.refl w) hE12) hE15)⟩
set_option maxRecDepth 100000 in
set_option maxHeartbeats 2000000 in
theorem c_g_slices_IndexFunc_Idx {A1 : Option Addr} {c1 : Nat} {g3 : Nat} {cp4 : List Value} {w : World} (p_s : List DIdx) (p_f : DIdx → Bool) (h1 : RdS w (Iv 0 w.heap.size) (RF e_Idx) 3 A1 p_s.length c1 p_s) (hen5 : Enters Try.prog g3) (hfn6 : ∀ (w1 : World) (y0 : DIdx), Ex w w1 → y0 ∈ p_s → ok_Idx y0 → Cal Try.prog g3 (([.agg #[.string (bs (y0.Name)), .int .i64 (y0.Col), .int .i64 (y0.Stage)]] : List Value) ++ cp4).toArray w1 fun v w2 => v = .bool (p_f y0) ∧ Ex w1 w2) (o2 : (okL ok_Idx) p_s) : Cal Try.prog 191 #[.slice A1 p_s.length c1, .func (.func g3) #[] cp4.toArray] w fun v w' => v = .int .i64 ((g_slices_IndexFunc_Idx p_s p_f)) ∧ Ex w w' := by
 have hol7 := o2.1
 refine Cal.of (vs := [.slice A1 p_s.length c1, .func (.func g3) #[] cp4.toArray]) Try.func191 rfl Try.ntmps191 rfl (CW.seq (CW.region (sd rfl (yl_assign rfl rfl (SeqR.done (tn (CW.seq (CW.seq (CW.region ?_)))))))))
 refine sd rfl (yl_move rfl rfl (sd rfl (yl_len Try.un33 rfl rfl (sd rfl (yl_move rfl rfl (SeqR.done (tn (CW.block (CW.loop (fun m9 L10 w11 => ∃ (k8 : Nat), m9 = p_s.length - k8 ∧ k8 ≤ p_s.length ∧ w.heap.size ≤ w11.heap.size ∧ lkp L10 0 = some (.slice A1 p_s.length c1) ∧ lkp L10 1 = some (.func (.func g3) #[] cp4.toArray) ∧ lkp L10 7 = some (.int .i64 ((p_s.length : Int))) ∧ lkp L10 8 = some (.int .i64 ((k8 : Int))) ∧ RdS w11 (Iv 0 w.heap.size) (RF e_Idx) 3 A1 p_s.length c1 p_s ∧ Ex w w11 ∧ loopM (B_g_slices_IndexFunc_Idx_0 p_s p_f) (p_s.length - k8) k8 () = loopM (B_g_slices_IndexFunc_Idx_0 p_s p_f) (p_s.length - 0) 0 ()) (p_s.length - 0) ?_ ?_)))))))))
 ·exact ⟨0, rfl, (by omega), Nat.le_refl _, rfl, rfl, rfl, rfl, h1, (Ex.refl w), rfl⟩
 ·rintro m12 L13 w14 ⟨k8, rfl, hk15, hsz17, hl18, hl19, hl20, hl21, hf22, hf23, hI16⟩
  refine CW.sub (Sub.cons hl18 (Sub.cons hl19 (Sub.cons hl20 (Sub.cons hl21 (Sub.nil _))))) ?_
  have hf23z := Ex.size hf23
  have hbg24 := RdS.big hf22
  rcases Nat.lt_or_ge k8 p_s.length with hlt25 | hlt25
  ·refine CW.seq (CW.region (sd rfl (yl_lss rfl rfl rfl (SeqR.done (tn (CW.seq (CW.cond_t rfl (lt_t hlt25) (CW.skip (tn ?_)))))))))
   refine CW.seq (CW.block (CW.seq (CW.region (sd rfl (yl_move rfl rfl (sd rfl (yl_assign rfl rfl (SeqR.done (tn (CW.seq ?_))))))))))
   refine CW.region (sd rfl (yl_move rfl rfl (sd rfl (yl_move rfl rfl (sd rfl (yl_move rfl rfl ?_))))))
   obtain ⟨eb26, eo26, ec26, eA26, eS26, ebl26, el26, eR26, eC26⟩ := RdS.atD hf22 d_Idx (i := k8) (by first | omega | assumption)
   obtain rfl := eR26
   have eC26 : Cells w14 eb26 (eo26 + k8 * 3) [.string (bs ((p_s.getD k8 d_Idx).Name)), .int .i64 ((p_s.getD k8 d_Idx).Col), .int .i64 ((p_s.getD k8 d_Idx).Stage)] := eC26
   refine sd rfl (yl_indexAddrN Try.un33 Try.ty132 rfl rfl rfl eA26 (by first | omega | assumption | (simp only [IntKind.wrap_i64] at *; omega)) (sd rfl (yl_loadN (cs := [.string (bs ((p_s.getD k8 d_Idx).Name)), .int .i64 ((p_s.getD k8 d_Idx).Col), .int .i64 ((p_s.getD k8 d_Idx).Stage)]) Try.ty132 rfl rfl eC26 rfl (sd rfl (yl_callv hen5 rfl rfl (opvs_cons rfl opvs_nil) (Cal.mono (hfn6 w14 (p_s.getD k8 d_Idx) hf23 (getD_mem (by omega)) (okL.getD o2 ok_d_Idx _)) ?_))))))
   rintro v28 w27 ⟨rfl, hE29⟩
   have hE29z := Ex.size hE29
   refine SeqR.done (tn (bcase (p_f (p_s.getD k8 d_Idx)) (fun hb30 => ?_) (fun hb30 => ?_)))
   ·refine CW.cond_t rfl hb30 (CW.seq (CW.region (sd rfl (yl_move rfl rfl (sd rfl (yl_assign rfl rfl (SeqR.done (tn (CW.ret (br ?_))))))))))
    refine tr (tr ?_)
    have hB32 : B_g_slices_IndexFunc_Idx_0 p_s p_f k8 () = .ret (k8 : Int) := by simp only [B_g_slices_IndexFunc_Idx_0, hb30, cond_true, cond_false, loopE_done, loopE_ret]
    have hL31 : loopM (B_g_slices_IndexFunc_Idx_0 p_s p_f) (p_s.length - 0) 0 () = .ret (k8 : Int) := hI16.symm.trans (loopM.ret hlt25 hB32)
    refine br (tr (rr rfl (.cons rfl .nil) ?_))
    have hM33 : (g_slices_IndexFunc_Idx p_s p_f) = ((k8 : Int)) := by simp only [g_slices_IndexFunc_Idx, hb30, hL31, cond_true, cond_false, loopE_done, loopE_ret]
    rw [hM33]
    exact ⟨rfl, (Ex.trans hf23 hE29)⟩
   ·refine CW.cond_f rfl hb30 (CW.skip (bn (tn (CW.region (sd rfl (yl_inc rfl rfl rfl (by omega) (sd rfl (yl_move rfl rfl (SeqR.done (tn ?_))))))))))
    have hB35 : B_g_slices_IndexFunc_Idx_0 p_s p_f k8 () = .cont () := by simp only [B_g_slices_IndexFunc_Idx_0, hb30, cond_true, cond_false, loopE_done, loopE_ret]
    exact ⟨p_s.length - (k8 + 1), by omega, k8 + 1, rfl, hlt25, (by omega), rfl, rfl, rfl, rfl, (RdS.ex good_Idx hf22 hE29), (Ex.trans hf23 hE29), (loopM.cont hlt25 hB35).symm.trans hI16⟩
  ·refine CW.seq (CW.region (sd rfl (yl_lss rfl rfl rfl (SeqR.done (tn (CW.seq (CW.cond_f rfl (lt_f hlt25) (CW.exit (tx ?_)))))))))
   refine tx ?_
   have hL38 : loopM (B_g_slices_IndexFunc_Idx_0 p_s p_f) (p_s.length - 0) 0 () = .done () := hI16.symm.trans (loopM.stop hlt25)
   refine bx (tn (CW.seq (CW.region (sd rfl (yl_assign rfl rfl (SeqR.done (tn (CW.ret (rr rfl (.cons rfl .nil) ?_)))))))))
   have hM39 : (g_slices_IndexFunc_Idx p_s p_f) = (-1) := by simp only [g_slices_IndexFunc_Idx, hL38, cond_true, cond_false, loopE_done, loopE_ret]
   rw [hM39]
   exact ⟨rfl, hf23⟩
set_option maxRecDepth 100000 in
set_option maxHeartbeats 2000000 in
theorem c_i_Table_findIdx_c1 {b2 : Nat} {w : World} (p_x : DIdx) (p_cap0 : Str) (h3 : Box w b2 9 [.string (bs (p_cap0))]) (o1 : ok_Idx p_x) (o4 : okS p_cap0) : Cal Try.prog 192 #[.agg #[.string (bs (p_x.Name)), .int .i64 (p_x.Col), .int .i64 (p_x.Stage)], .pointer (some ⟨b2, 0, none⟩)] w fun v w' => v = .bool ((i_Table_findIdx_c1 p_x p_cap0)) ∧ Ex w w' := by
 have hol5 : p_x.Name.length ≤ 1073741824 := o1
 have hol6 : p_cap0.length ≤ 1073741824 := o4
 refine Cal.of (vs := [.agg #[.string (bs (p_x.Name)), .int .i64 (p_x.Col), .int .i64 (p_x.Stage)], .pointer (some ⟨b2, 0, none⟩)]) Try.func192 rfl Try.ntmps192 rfl (CW.seq (CW.region (sd rfl (yl_box (cs := [.string (bs (p_x.Name)), .int .i64 (p_x.Col), .int .i64 (p_x.Stage)]) rfl rfl rfl ?_))))
 intro b7 w8 hs9 hz10 hB11 hE12
 refine sd rfl (yl_assign rfl rfl (SeqR.done (tn (CW.seq (CW.region (sd rfl (yl_fieldAddr Try.fd132_0 rfl rfl (sd rfl (yl_load1 Try.ty9 rfl rfl ((hB11.cell 0).trans rfl) (sd rfl (yl_load1 Try.ty9 rfl rfl (((Box.ex h3 hE12).cell 0).trans rfl) (sd rfl (yl_seql (a := p_x.Name) (b := p_cap0) rfl rfl rfl ?_)))))))))))))
 refine sd rfl (yl_assign rfl rfl (SeqR.done (tn (CW.ret (rr rfl (.cons rfl .nil) ?_)))))
 have hM14 : (i_Table_findIdx_c1 p_x p_cap0) = (p_x.Name == p_cap0) := by simp only [i_Table_findIdx_c1, cond_true, cond_false, loopE_done, loopE_ret]
 rw [hM14]
 exact ⟨rfl, (Ex.trans (Ex.refl w) hE12)⟩
set_option maxRecDepth 100000 in
set_option maxHeartbeats 2000000 in
theorem c_i_Table_findIdx {A1 : Option Addr} {c1 : Nat} {A2 : Option Addr} {c2 : Nat} {w : World} (p_t : DTable) (p_name : Str) (h1 : RdS w (Iv 0 w.heap.size) (RF e_Str) 1 A1 p_t.Cols.length c1 p_t.Cols) (h2 : RdS w (Iv 0 w.heap.size) (RF e_Idx) 3 A2 p_t.Idxs.length c2 p_t.Idxs) (o3 : ok_Table p_t) (o4 : okS p_name) : Cal Try.prog 151 #[.agg #[.string (bs (p_t.Name)), .slice A1 p_t.Cols.length c1, .slice A2 p_t.Idxs.length c2], .string (bs (p_name))] w fun v w' => v = .int .i64 ((i_Table_findIdx p_t p_name)) ∧ Ex w w' := by
 have hol5 : p_t.Name.length ≤ 1073741824 := o3.1
 have hol6 := o3.2.1.1
 have hol7 := o3.2.2.1
 have hol8 : p_name.length ≤ 1073741824 := o4
 refine Cal.of (vs := [.agg #[.string (bs (p_t.Name)), .slice A1 p_t.Cols.length c1, .slice A2 p_t.Idxs.length c2], .string (bs (p_name))]) Try.func151 rfl Try.ntmps151 rfl (CW.seq (CW.region (sd rfl (yl_box (cs := [.string (bs (p_t.Name)), .slice A1 p_t.Cols.length c1, .slice A2 p_t.Idxs.length c2]) rfl rfl rfl ?_))))
 intro b9 w10 hs11 hz12 hB13 hE14
 refine sd rfl (yl_box (cs := [.string (bs (p_name))]) rfl rfl rfl ?_)
 intro b15 w16 hs17 hz18 hB19 hE20
 refine sd rfl (yl_assign rfl rfl (SeqR.done (tn (CW.seq (CW.region (sd rfl (yl_fieldAddr Try.fd35_2 rfl rfl (sd rfl (yl_load1 Try.ty33 rfl rfl (((Box.ex hB13 hE20).cell 2).trans rfl) (sd rfl (yl_makeFunc rfl (opvs_cons rfl opvs_nil) (sd rfl (yl_call Try.en191 rfl (opvs_cons rfl (opvs_cons rfl opvs_nil)) (Cal.mono (c_g_slices_IndexFunc_Idx p_t.Idxs (fun y0 => i_Table_findIdx_c1 y0 p_name) (RdS.up (RdS.ex good_Idx (RdS.ex good_Idx h2 hE14) hE20) good_Idx) Try.en192 (fun _ y0 => fun hE hm0 ov0 => c_i_Table_findIdx_c1 y0 p_name (Box.ex hB19 hE) ov0 o4) o3.2.2) ?_))))))))))))))
 rintro v25 w24 ⟨rfl, hE26⟩
 have hE26z := Ex.size hE26
 refine sd rfl (yl_assign rfl rfl (SeqR.done (tn (CW.ret (rr rfl (.cons rfl .nil) ?_)))))
 have hM27 : (i_Table_findIdx p_t p_name) = ((g_slices_IndexFunc_Idx p_t.Idxs (fun y0 => i_Table_findIdx_c1 y0 p_name))) := by simp only [i_Table_findIdx, cond_true, cond_false, loopE_done, loopE_ret]
 rw [hM27]
 exact ⟨rfl, (Ex.trans (Ex.trans (Ex.trans (Ex.refl w) hE14) hE20) hE26)⟩
set_option maxRecDepth 100000 in
set_option maxHeartbeats 2000000 in
theorem c_i_hasIdx {A1 : Option Addr} {c1 : Nat} {A2 : Option Addr} {c2 : Nat} {w : World} (p_t : DTable) (p_name : Str) (h1 : RdS w (Iv 0 w.heap.size) (RF e_Str) 1 A1 p_t.Cols.length c1 p_t.Cols) (h2 : RdS w (Iv 0 w.heap.size) (RF e_Idx) 3 A2 p_t.Idxs.length c2 p_t.Idxs) (o3 : ok_Table p_t) (o4 : okS p_name) : Cal Try.prog 90 #[.agg #[.string (bs (p_t.Name)), .slice A1 p_t.Cols.length c1, .slice A2 p_t.Idxs.length c2], .string (bs (p_name))] w fun v w' => v = .bool ((i_hasIdx p_t p_name)) ∧ Ex w w' := by
 have hol5 : p_t.Name.length ≤ 1073741824 := o3.1
 have hol6 := o3.2.1.1
 have hol7 := o3.2.2.1
 have hol8 : p_name.length ≤ 1073741824 := o4
 refine Cal.of (vs := [.agg #[.string (bs (p_t.Name)), .slice A1 p_t.Cols.length c1, .slice A2 p_t.Idxs.length c2], .string (bs (p_name))]) Try.func90 rfl Try.ntmps90 rfl (CW.seq (CW.region (sd rfl (yl_box (cs := [.string (bs (p_t.Name)), .slice A1 p_t.Cols.length c1, .slice A2 p_t.Idxs.length c2]) rfl rfl rfl ?_))))
 intro b9 w10 hs11 hz12 hB13 hE14
 refine sd rfl (yl_assign rfl rfl (SeqR.done (tn (CW.seq (CW.region (sd rfl (yl_loadN (cs := [.string (bs (p_t.Name)), .slice A1 p_t.Cols.length c1, .slice A2 p_t.Idxs.length c2]) Try.ty35 rfl rfl (hB13.cells (n := 3) rfl) rfl ?_)))))))
 have q15 := RdS.ex good_Str h1 hE14
 have q16 := RdS.ex good_Idx h2 hE14
 refine sd rfl (yl_call Try.en72 rfl (opvs_cons rfl opvs_nil) (Cal.mono (c_i_GoodTable p_t (RdS.up q15 good_Str) (RdS.up q16 good_Idx) o3) ?_))
 rintro v18 w17 ⟨rfl, hE19⟩
 have hE19z := Ex.size hE19
 refine sd rfl (yl_move rfl rfl (bcase (i_GoodTable p_t) (fun hb20 => ?_) (fun hb20 => ?_)))
 ·have hb20p := f_i_GoodTable hb20
  refine sy rfl rfl hb20 (yl_loadN (cs := [.string (bs (p_t.Name)), .slice A1 p_t.Cols.length c1, .slice A2 p_t.Idxs.length c2]) Try.ty35 rfl rfl ((Box.ex hB13 hE19).cells (n := 3) rfl) rfl (sy rfl rfl hb20 (yl_move rfl rfl (sy rfl rfl hb20 (yl_call Try.en151 rfl (opvs_cons rfl (opvs_cons rfl opvs_nil)) (Cal.mono (c_i_Table_findIdx p_t p_name (RdS.up (RdS.ex good_Str q15 hE19) good_Str) (RdS.up (RdS.ex good_Idx q16 hE19) good_Idx) o3 o4) ?_))))))
  rintro v25 w24 ⟨rfl, hE26⟩
  have hE26z := Ex.size hE26
  have hrf27 := rf_i_findIdx p_t p_name
  refine sy rfl rfl hb20 (yl_geq rfl rfl rfl (sd rfl (yl_pick_t rfl rfl hb20 rfl (sd rfl (yl_assign rfl rfl (SeqR.done (tn (CW.ret (rr rfl (.cons rfl .nil) ?_)))))))))
  have hM28 : (i_hasIdx p_t p_name) = (decide (0 ≤ (i_Table_findIdx p_t p_name))) := by simp only [i_hasIdx, hb20, cond_true, cond_false, loopE_done, loopE_ret]
  rw [hM28]
  exact ⟨rfl, (Ex.trans (Ex.trans (Ex.trans (Ex.refl w) hE14) hE19) hE26)⟩
 ·refine sz rfl rfl hb20 (sz rfl rfl hb20 (sz rfl rfl hb20 (sz rfl rfl hb20 (sd rfl (yl_pick_f rfl rfl hb20 rfl (sd rfl (yl_assign rfl rfl (SeqR.done (tn (CW.ret ?_))))))))))
  refine rr rfl (.cons rfl .nil) ?_
  have hM32 : (i_hasIdx p_t p_name) = (false) := by simp only [i_hasIdx, hb20, cond_true, cond_false, loopE_done, loopE_ret]
  rw [hM32]
  exact ⟨rfl, (Ex.trans (Ex.trans (Ex.refl w) hE14) hE19)⟩
set_option maxRecDepth 100000 in
set_option maxHeartbeats 2000000 in
theorem c_i_isLowerOrDigit {w : World} (p_b : Int) : Cal Try.prog 212 #[.int .u8 (p_b)] w fun v w' => v = .bool ((i_isLowerOrDigit p_b)) ∧ Ex w w' := by
 refine Cal.of (vs := [.int .u8 (p_b)]) Try.func212 rfl Try.ntmps212 rfl (CW.seq (CW.region (sd rfl (yl_assign rfl rfl (SeqR.done (tn (CW.seq (CW.region (sd rfl (yl_move rfl rfl ?_))))))))))
 refine sd rfl (yl_geq rfl rfl rfl (sd rfl (yl_move rfl rfl (bcase (decide (97 ≤ p_b)) (fun hb1 => ?_) (fun hb1 => ?_)))))
 ·have hb1p := dec_t hb1
  refine sy rfl rfl hb1 (yl_move rfl rfl (sy rfl rfl hb1 (yl_leq rfl rfl rfl (sd rfl (yl_pick_t rfl rfl hb1 rfl (sd rfl (yl_move rfl rfl (bcase (decide (p_b ≤ 122)) (fun hb2 => ?_) (fun hb2 => ?_)))))))))
  ·have hb2p := dec_t hb2
   refine sz rfl rfl hb2 (sz rfl rfl hb2 (sz rfl rfl hb2 (sq rfl rfl (sq rfl rfl (sz rfl rfl hb2 (sd rfl (yl_pick_t rfl rfl hb2 rfl (sd rfl (yl_assign rfl rfl (SeqR.done ?_))))))))))
   refine tn (CW.ret (rr rfl (.cons rfl .nil) ?_))
   have hM3 : (i_isLowerOrDigit p_b) = (true) := by simp only [i_isLowerOrDigit, hb1, hb2, cond_true, cond_false, loopE_done, loopE_ret]
   rw [hM3]
   exact ⟨rfl, (Ex.refl w)⟩
  ·have hb2p := dec_f hb2
   refine sy rfl rfl hb2 (yl_move rfl rfl (sy rfl rfl hb2 (yl_geq rfl rfl rfl (sy rfl rfl hb2 (yl_move rfl rfl (bcase (decide (48 ≤ p_b)) (fun hb4 => ?_) (fun hb4 => ?_)))))))
   ·have hb4p := dec_t hb4
    refine sy rfl rfl hb4 (yl_move rfl rfl (sy rfl rfl hb4 (yl_leq rfl rfl rfl (sy rfl rfl hb2 (yl_pick_t rfl rfl hb4 rfl (sd rfl (yl_pick_f rfl rfl hb2 rfl (sd rfl (yl_assign rfl rfl (SeqR.done (tn (CW.ret (rr rfl (.cons rfl .nil) ?_)))))))))))))
    have hM5 : (i_isLowerOrDigit p_b) = (decide (p_b ≤ 57)) := by simp only [i_isLowerOrDigit, hb1, hb2, hb4, cond_true, cond_false, loopE_done, loopE_ret]
    rw [hM5]
    exact ⟨rfl, (Ex.refl w)⟩
   ·have hb4p := dec_f hb4
    refine sz rfl rfl hb4 (sz rfl rfl hb4 (sy rfl rfl hb2 (yl_pick_f rfl rfl hb4 rfl (sd rfl (yl_pick_f rfl rfl hb2 rfl (sd rfl (yl_assign rfl rfl (SeqR.done (tn (CW.ret (rr rfl (.cons rfl .nil) ?_)))))))))))
    have hM6 : (i_isLowerOrDigit p_b) = (false) := by simp only [i_isLowerOrDigit, hb1, hb2, hb4, cond_true, cond_false, loopE_done, loopE_ret]
    rw [hM6]
    exact ⟨rfl, (Ex.refl w)⟩
 ·have hb1p := dec_f hb1
  refine sz rfl rfl hb1 (sz rfl rfl hb1 (sd rfl (yl_pick_f rfl rfl hb1 rfl (sd rfl (yl_move rfl rfl (sy rfl rfl rfl (yl_move rfl rfl (sy rfl rfl rfl (yl_geq rfl rfl rfl (sy rfl rfl rfl (yl_move rfl rfl (bcase (decide (48 ≤ p_b)) (fun hb7 => ?_) (fun hb7 => ?_)))))))))))))
  ·have hb7p := dec_t hb7
   refine sy rfl rfl hb7 (yl_move rfl rfl (sy rfl rfl hb7 (yl_leq rfl rfl rfl (sy rfl rfl rfl (yl_pick_t rfl rfl hb7 rfl (sd rfl (yl_pick_f rfl rfl rfl rfl (sd rfl (yl_assign rfl rfl (SeqR.done (tn (CW.ret (rr rfl (.cons rfl .nil) ?_)))))))))))))
   have hM8 : (i_isLowerOrDigit p_b) = (decide (p_b ≤ 57)) := by simp only [i_isLowerOrDigit, hb1, hb7, cond_true, cond_false, loopE_done, loopE_ret]
   rw [hM8]
   exact ⟨rfl, (Ex.refl w)⟩
  ·have hb7p := dec_f hb7
   refine sz rfl rfl hb7 (sz rfl rfl hb7 (sy rfl rfl rfl (yl_pick_f rfl rfl hb7 rfl (sd rfl (yl_pick_f rfl rfl rfl rfl (sd rfl (yl_assign rfl rfl (SeqR.done (tn (CW.ret (rr rfl (.cons rfl .nil) ?_)))))))))))
   have hM9 : (i_isLowerOrDigit p_b) = (false) := by simp only [i_isLowerOrDigit, hb1, hb7, cond_true, cond_false, loopE_done, loopE_ret]
   rw [hM9]
   exact ⟨rfl, (Ex.refl w)⟩
set_option maxRecDepth 100000 in
set_option maxHeartbeats 2000000 in
theorem c_g_internal_stringslite_IndexByte {w : World} (p_s : Str) (p_c : Int) (o1 : okS p_s) : Cal Try.prog 222 #[.string (bs (p_s)), .int .u8 (p_c)] w fun v w' => v = .int .i64 ((g_internal_stringslite_IndexByte p_s p_c)) ∧ Ex w w' := by
 have hol2 : p_s.length ≤ 1073741824 := o1
 refine Cal.of (vs := [.string (bs (p_s)), .int .u8 (p_c)]) Try.func222 rfl Try.ntmps222 rfl (CW.seq (CW.region (sd rfl (yl_assign rfl rfl (SeqR.done (tn (CW.seq (CW.region (sd rfl (yl_move rfl rfl ?_))))))))))
 refine sd rfl (yl_move rfl rfl (sd rfl (yl_idxB (s := p_s) (c := p_c) Try.ex228 rfl (opvs_cons rfl (opvs_cons rfl opvs_nil)) (sd rfl (yl_assign rfl rfl (SeqR.done (tn (CW.ret (rr rfl (.cons rfl .nil) ?_)))))))))
 have hM3 : (g_internal_stringslite_IndexByte p_s p_c) = (idxB p_s p_c) := by simp only [g_internal_stringslite_IndexByte, cond_true, cond_false, loopE_done, loopE_ret]
 rw [hM3]
 exact ⟨rfl, (Ex.refl w)⟩
set_option maxRecDepth 100000 in
set_option maxHeartbeats 2000000 in
theorem c_g_strings_IndexByte {w : World} (p_s : Str) (p_c : Int) (o1 : okS p_s) : Cal Try.prog 213 #[.string (bs (p_s)), .int .u8 (p_c)] w fun v w' => v = .int .i64 ((g_strings_IndexByte p_s p_c)) ∧ Ex w w' := by
 have hol2 : p_s.length ≤ 1073741824 := o1
 refine Cal.of (vs := [.string (bs (p_s)), .int .u8 (p_c)]) Try.func213 rfl Try.ntmps213 rfl (CW.seq (CW.region (sd rfl (yl_assign rfl rfl (SeqR.done (tn (CW.seq (CW.region (sd rfl (yl_move rfl rfl ?_))))))))))
 refine sd rfl (yl_move rfl rfl (sd rfl (yl_call Try.en222 rfl (opvs_cons rfl (opvs_cons rfl opvs_nil)) (Cal.mono (c_g_internal_stringslite_IndexByte p_s p_c o1) ?_))))
 rintro v4 w3 ⟨rfl, hE5⟩
 have hE5z := Ex.size hE5
 refine sd rfl (yl_assign rfl rfl (SeqR.done (tn (CW.ret (rr rfl (.cons rfl .nil) ?_)))))
 have hM6 : (g_strings_IndexByte p_s p_c) = ((g_internal_stringslite_IndexByte p_s p_c)) := by simp only [g_strings_IndexByte, cond_true, cond_false, loopE_done, loopE_ret]
 rw [hM6]
 exact ⟨rfl, (Ex.trans (Ex.refl w) hE5)⟩
set_option maxRecDepth 100000 in
set_option maxHeartbeats 2000000 in
theorem c_i_hasBytes {w : World} (p_s : Str) (p_others : Str) (o1 : okS p_s) (o2 : okS p_others) : Cal Try.prog 190 #[.string (bs (p_s)), .string (bs (p_others))] w fun v w' => v = .bool ((i_hasBytes p_s p_others)) ∧ Ex w w' := by
 have hol3 : p_s.length ≤ 1073741824 := o1
 have hol4 : p_others.length ≤ 1073741824 := o2
 refine Cal.of (vs := [.string (bs (p_s)), .string (bs (p_others))]) Try.func190 rfl Try.ntmps190 rfl (CW.seq (CW.region (sd rfl (yl_assign rfl rfl (SeqR.done (tn (CW.seq (CW.seq (CW.region ?_)))))))))
 refine sd rfl (yl_move rfl rfl (sd rfl (yl_slen Try.un9 (a := p_s) rfl rfl (sd rfl (yl_move rfl rfl (SeqR.done (tn (CW.block (CW.loop (fun m6 L7 w8 => ∃ (k5 : Nat), m6 = p_s.length - k5 ∧ k5 ≤ p_s.length ∧ w.heap.size ≤ w8.heap.size ∧ lkp L7 0 = some (.string (bs (p_s))) ∧ lkp L7 1 = some (.string (bs (p_others))) ∧ lkp L7 7 = some (.int .i64 ((p_s.length : Int))) ∧ lkp L7 8 = some (.int .i64 ((k5 : Int))) ∧ Ex w w8 ∧ loopM (B_i_hasBytes_0 p_s p_others) (p_s.length - k5) k5 () = loopM (B_i_hasBytes_0 p_s p_others) (p_s.length - 0) 0 ()) (p_s.length - 0) ?_ ?_)))))))))
 ·exact ⟨0, rfl, (by omega), Nat.le_refl _, rfl, rfl, rfl, rfl, (Ex.refl w), rfl⟩
 ·rintro m9 L10 w11 ⟨k5, rfl, hk12, hsz14, hl15, hl16, hl17, hl18, hf19, hI13⟩
  refine CW.sub (Sub.cons hl15 (Sub.cons hl16 (Sub.cons hl17 (Sub.cons hl18 (Sub.nil _))))) ?_
  have hf19z := Ex.size hf19
  have hbg20 : p_s.length ≤ 1073741824 := o1
  rcases Nat.lt_or_ge k5 p_s.length with hlt21 | hlt21
  ·refine CW.seq (CW.region (sd rfl (yl_lss rfl rfl rfl (SeqR.done (tn (CW.seq (CW.cond_t rfl (lt_t hlt21) (CW.skip (tn ?_)))))))))
   refine CW.seq (CW.block (CW.seq (CW.region (sd rfl (yl_move rfl rfl (sd rfl (yl_assign rfl rfl (SeqR.done (tn (CW.seq ?_))))))))))
   refine CW.region (sd rfl (yl_move rfl rfl (sd rfl (yl_move rfl rfl (sd rfl (yl_sindexN Try.un9 (a := p_s) rfl rfl rfl (by first | omega | assumption | (simp only [IntKind.wrap_i64] at *; omega)) (sd rfl (yl_call Try.en212 rfl (opvs_cons rfl opvs_nil) (Cal.mono (c_i_isLowerOrDigit ((p_s.getD k5 0).toNat : Int)) ?_)))))))))
   rintro v23 w22 ⟨rfl, hE24⟩
   have hE24z := Ex.size hE24
   refine sd rfl (yl_not rfl rfl (sd rfl (yl_move rfl rfl (bcase (i_isLowerOrDigit ((p_s.getD k5 0).toNat : Int)) (fun hb25 => ?_) (fun hb25 => ?_)))))
   ·refine sz rfl rfl (not_t hb25) (sz rfl rfl (not_t hb25) (sz rfl rfl (not_t hb25) (sz rfl rfl (not_t hb25) (sz rfl rfl (not_t hb25) (sz rfl rfl (not_t hb25) (sd rfl (yl_pick_f rfl rfl (not_t hb25) rfl (SeqR.done (tn ?_)))))))))
    refine CW.cond_f rfl rfl (CW.skip (bn (tn (CW.region (sd rfl (yl_inc rfl rfl rfl (by omega) (sd rfl (yl_move rfl rfl (SeqR.done (tn ?_))))))))))
    have hB26 : B_i_hasBytes_0 p_s p_others k5 () = .cont () := by simp only [B_i_hasBytes_0, hb25, cond_true, cond_false, loopE_done, loopE_ret]
    exact ⟨p_s.length - (k5 + 1), by omega, k5 + 1, rfl, hlt21, (by omega), rfl, rfl, rfl, rfl, (Ex.trans hf19 hE24), (loopM.cont hlt21 hB26).symm.trans hI13⟩
   ·refine sy rfl rfl (not_f hb25) (yl_move rfl rfl (sy rfl rfl (not_f hb25) (yl_move rfl rfl (sy rfl rfl (not_f hb25) (yl_move rfl rfl (sy rfl rfl (not_f hb25) (yl_sindexN Try.un9 (a := p_s) rfl rfl rfl (by first | omega | assumption | (simp only [IntKind.wrap_i64] at *; omega)) (sy rfl rfl (not_f hb25) (yl_call Try.en213 rfl (opvs_cons rfl (opvs_cons rfl opvs_nil)) (Cal.mono (c_g_strings_IndexByte p_others ((p_s.getD k5 0).toNat : Int) o2) ?_))))))))))
    rintro v29 w28 ⟨rfl, hE30⟩
    have hE30z := Ex.size hE30
    refine sy rfl rfl (not_f hb25) (yl_lss rfl rfl rfl (sd rfl (yl_pick_t rfl rfl (not_f hb25) rfl (SeqR.done (tn (bcase (decide ((g_strings_IndexByte p_others ((p_s.getD k5 0).toNat : Int)) < 0)) (fun hb31 => ?_) (fun hb31 => ?_)))))))
    ·have hb31p := dec_t hb31
     refine CW.cond_t rfl hb31 (CW.seq (CW.region (sd rfl (yl_assign rfl rfl (SeqR.done (tn (CW.ret (br (tr ?_)))))))))
     refine tr ?_
     have hB33 : B_i_hasBytes_0 p_s p_others k5 () = .ret false := by simp only [B_i_hasBytes_0, hb25, hb31, cond_true, cond_false, loopE_done, loopE_ret]
     have hL32 : loopM (B_i_hasBytes_0 p_s p_others) (p_s.length - 0) 0 () = .ret false := hI13.symm.trans (loopM.ret hlt21 hB33)
     refine br (tr (rr rfl (.cons rfl .nil) ?_))
     have hM34 : (i_hasBytes p_s p_others) = (false) := by simp only [i_hasBytes, hb25, hb31, hL32, cond_true, cond_false, loopE_done, loopE_ret]
     rw [hM34]
     exact ⟨rfl, (Ex.trans (Ex.trans hf19 hE24) hE30)⟩
    ·have hb31p := dec_f hb31
     refine CW.cond_f rfl hb31 (CW.skip (bn (tn (CW.region (sd rfl (yl_inc rfl rfl rfl (by omega) (sd rfl (yl_move rfl rfl (SeqR.done (tn ?_))))))))))
     have hB37 : B_i_hasBytes_0 p_s p_others k5 () = .cont () := by simp only [B_i_hasBytes_0, hb25, hb31, cond_true, cond_false, loopE_done, loopE_ret]
     exact ⟨p_s.length - (k5 + 1), by omega, k5 + 1, rfl, hlt21, (by omega), rfl, rfl, rfl, rfl, (Ex.trans (Ex.trans hf19 hE24) hE30), (loopM.cont hlt21 hB37).symm.trans hI13⟩
  ·refine CW.seq (CW.region (sd rfl (yl_lss rfl rfl rfl (SeqR.done (tn (CW.seq (CW.cond_f rfl (lt_f hlt21) (CW.exit (tx ?_)))))))))
   refine tx ?_
   have hL40 : loopM (B_i_hasBytes_0 p_s p_others) (p_s.length - 0) 0 () = .done () := hI13.symm.trans (loopM.stop hlt21)
   refine bx (tn (CW.seq (CW.region (sd rfl (yl_assign rfl rfl (SeqR.done (tn (CW.ret (rr rfl (.cons rfl .nil) ?_)))))))))
   have hM41 : (i_hasBytes p_s p_others) = (true) := by simp only [i_hasBytes, hL40, cond_true, cond_false, loopE_done, loopE_ret]
   rw [hM41]
   exact ⟨rfl, hf19⟩
set_option maxRecDepth 100000 in
set_option maxHeartbeats 2000000 in
theorem c_i_isField {w : World} (p_s : Str) (o1 : okS p_s) : Cal Try.prog 150 #[.string (bs (p_s))] w fun v w' => v = .bool ((i_isField p_s)) ∧ Ex w w' := by
 have hol2 : p_s.length ≤ 1073741824 := o1
 refine Cal.of (vs := [.string (bs (p_s))]) Try.func150 rfl Try.ntmps150 rfl (CW.seq (CW.region (sd rfl (yl_assign rfl rfl (SeqR.done (tn (CW.seq (CW.region (sd rfl (yl_move rfl rfl ?_))))))))))
 refine sd rfl (yl_slen Try.un9 (a := p_s) rfl rfl (sd rfl (yl_call Try.en129 rfl (opvs_cons rfl (opvs_cons rfl (opvs_cons rfl opvs_nil))) (Cal.mono (c_i_within (p_s.length : Int) 1 3) ?_))))
 rintro v4 w3 ⟨rfl, hE5⟩
 have hE5z := Ex.size hE5
 refine sd rfl (yl_move rfl rfl (bcase (i_within (p_s.length : Int) 1 3) (fun hb6 => ?_) (fun hb6 => ?_)))
 ·have hb6p := f_within hb6
  refine sy rfl rfl hb6 (yl_move rfl rfl (sy rfl rfl hb6 (yl_call Try.en190 rfl (opvs_cons rfl (opvs_cons rfl opvs_nil)) (Cal.mono (c_i_hasBytes p_s ([] : Str) o1 (okS.lit rfl)) ?_))))
  rintro v8 w7 ⟨rfl, hE9⟩
  have hE9z := Ex.size hE9
  refine sd rfl (yl_pick_t rfl rfl hb6 rfl (sd rfl (yl_assign rfl rfl (SeqR.done (tn (CW.ret (rr rfl (.cons rfl .nil) ?_)))))))
  have hM10 : (i_isField p_s) = ((i_hasBytes p_s ([] : Str))) := by simp only [i_isField, hb6, cond_true, cond_false, loopE_done, loopE_ret]
  rw [hM10]
  exact ⟨rfl, (Ex.trans (Ex.trans (Ex.refl w) hE5) hE9)⟩
 ·refine sz rfl rfl hb6 (sz rfl rfl hb6 (sd rfl (yl_pick_f rfl rfl hb6 rfl (sd rfl (yl_assign rfl rfl (SeqR.done (tn (CW.ret (rr rfl (.cons rfl .nil) ?_)))))))))
  have hM13 : (i_isField p_s) = (false) := by simp only [i_isField, hb6, cond_true, cond_false, loopE_done, loopE_ret]
  rw [hM13]
  exact ⟨rfl, (Ex.trans (Ex.refl w) hE5)⟩
set_option maxRecDepth 100000 in
set_option maxHeartbeats 2000000 in
theorem c_i_Table_idxHead {A1 : Option Addr} {c1 : Nat} {A2 : Option Addr} {c2 : Nat} {w : World} (p_t : DTable) (p_name : Str) (h1 : RdS w (Iv 0 w.heap.size) (RF e_Str) 1 A1 p_t.Cols.length c1 p_t.Cols) (h2 : RdS w (Iv 0 w.heap.size) (RF e_Idx) 3 A2 p_t.Idxs.length c2 p_t.Idxs) (o3 : ok_Table p_t) (o4 : okS p_name) : Cal Try.prog 160 #[.agg #[.string (bs (p_t.Name)), .slice A1 p_t.Cols.length c1, .slice A2 p_t.Idxs.length c2], .string (bs (p_name))] w fun v w' => v = .string (bs ((i_Table_idxHead p_t p_name))) ∧ Ex w w' := by
 have hol5 : p_t.Name.length ≤ 1073741824 := o3.1
 have hol6 := o3.2.1.1
 have hol7 := o3.2.2.1
 have hol8 : p_name.length ≤ 1073741824 := o4
 refine Cal.of (vs := [.agg #[.string (bs (p_t.Name)), .slice A1 p_t.Cols.length c1, .slice A2 p_t.Idxs.length c2], .string (bs (p_name))]) Try.func160 rfl Try.ntmps160 rfl (CW.seq (CW.region (sd rfl (yl_box (cs := [.string (bs (p_t.Name)), .slice A1 p_t.Cols.length c1, .slice A2 p_t.Idxs.length c2]) rfl rfl rfl ?_))))
 intro b9 w10 hs11 hz12 hB13 hE14
 refine sd rfl (yl_assign rfl rfl (SeqR.done (tn (CW.seq (CW.region (sd rfl (yl_fieldAddr Try.fd35_0 rfl rfl (sd rfl (yl_load1 Try.ty9 rfl rfl ((hB13.cell 0).trans rfl) ?_)))))))))
 have hol15 : p_t.Name.length ≤ 1073741824 := o3.1
 refine sd rfl (yl_sadd (a := p_t.Name) (b := ([46] : Str)) rfl rfl rfl (by first | omega | (simp only [List.length_append, List.length_cons, List.length_nil, List.length_take, List.length_drop, toS_length]; omega)) (sd rfl (yl_move rfl rfl ?_)))
 have hol16 : p_t.Name.length ≤ 1073741824 := o3.1
 have hol17 : p_name.length ≤ 1073741824 := o4
 refine sd rfl (yl_sadd (a := (p_t.Name ++ ([46] : Str))) (b := p_name) rfl rfl rfl (by first | omega | (simp only [List.length_append, List.length_cons, List.length_nil, List.length_take, List.length_drop, toS_length]; omega)) ?_)
 have hol18 : p_t.Name.length ≤ 1073741824 := o3.1
 have hol19 : p_name.length ≤ 1073741824 := o4
 refine sd rfl (yl_sadd (a := ((p_t.Name ++ ([46] : Str)) ++ p_name)) (b := ([47] : Str)) rfl rfl rfl (by first | omega | (simp only [List.length_append, List.length_cons, List.length_nil, List.length_take, List.length_drop, toS_length]; omega)) (sd rfl (yl_assign rfl rfl (SeqR.done (tn (CW.ret (rr rfl (.cons rfl .nil) ?_)))))))
 have hM20 : (i_Table_idxHead p_t p_name) = (((p_t.Name ++ ([46] : Str)) ++ p_name) ++ ([47] : Str)) := by simp only [i_Table_idxHead, cond_true, cond_false, loopE_done, loopE_ret]
 rw [hM20]
 exact ⟨rfl, (Ex.trans (Ex.refl w) hE14)⟩
set_option maxRecDepth 100000 in
set_option maxHeartbeats 2000000 in
theorem c_g_internal_stringslite_HasPrefix {w : World} (p_s : Str) (p_prefix : Str) (o1 : okS p_s) (o2 : okS p_prefix) : Cal Try.prog 220 #[.string (bs (p_s)), .string (bs (p_prefix))] w fun v w' => v = .bool ((g_internal_stringslite_HasPrefix p_s p_prefix)) ∧ Ex w w' := by
 have hol3 : p_s.length ≤ 1073741824 := o1
 have hol4 : p_prefix.length ≤ 1073741824 := o2
 refine Cal.of (vs := [.string (bs (p_s)), .string (bs (p_prefix))]) Try.func220 rfl Try.ntmps220 rfl (CW.seq (CW.region (sd rfl (yl_assign rfl rfl (SeqR.done (tn (CW.seq (CW.region (sd rfl (yl_move rfl rfl ?_))))))))))
 refine sd rfl (yl_slen Try.un9 (a := p_s) rfl rfl (sd rfl (yl_move rfl rfl (sd rfl (yl_slen Try.un9 (a := p_prefix) rfl rfl (sd rfl (yl_geq rfl rfl rfl (sd rfl (yl_move rfl rfl (bcase (decide ((p_prefix.length : Int) ≤ (p_s.length : Int))) (fun hb5 => ?_) (fun hb5 => ?_)))))))))))
 ·have hb5p := dec_t hb5
  refine sy rfl rfl hb5 (yl_move rfl rfl (sy rfl rfl hb5 (yl_move rfl rfl (sy rfl rfl hb5 (yl_slen Try.un9 (a := p_prefix) rfl rfl (sy rfl rfl hb5 (yl_sslice_hi Try.un9 (a := p_s) (h := p_prefix.length) rfl rfl rfl (by omega) (sy rfl rfl hb5 (yl_move rfl rfl (sy rfl rfl hb5 (yl_seql (a := (p_s.take p_prefix.length)) (b := p_prefix) rfl rfl rfl (sd rfl (yl_pick_t rfl rfl hb5 rfl (sd rfl (yl_assign rfl rfl (SeqR.done ?_))))))))))))))))
  refine tn (CW.ret (rr rfl (.cons rfl .nil) ?_))
  have hM6 : (g_internal_stringslite_HasPrefix p_s p_prefix) = ((p_s.take p_prefix.length) == p_prefix) := by simp only [g_internal_stringslite_HasPrefix, hb5, cond_true, cond_false, loopE_done, loopE_ret]
  rw [hM6]
  exact ⟨rfl, (Ex.refl w)⟩
 ·have hb5p := dec_f hb5
  refine sz rfl rfl hb5 (sz rfl rfl hb5 (sz rfl rfl hb5 (sz rfl rfl hb5 (sz rfl rfl hb5 (sz rfl rfl hb5 (sd rfl (yl_pick_f rfl rfl hb5 rfl (sd rfl (yl_assign rfl rfl (SeqR.done ?_))))))))))
  refine tn (CW.ret (rr rfl (.cons rfl .nil) ?_))
  have hM7 : (g_internal_stringslite_HasPrefix p_s p_prefix) = (false) := by simp only [g_internal_stringslite_HasPrefix, hb5, cond_true, cond_false, loopE_done, loopE_ret]
  rw [hM7]
  exact ⟨rfl, (Ex.refl w)⟩
set_option maxRecDepth 100000 in
set_option maxHeartbeats 2000000 in
theorem c_g_internal_stringslite_CutPrefix {w : World} (p_s : Str) (p_prefix : Str) (o1 : okS p_s) (o2 : okS p_prefix) : Cal Try.prog 205 #[.string (bs (p_s)), .string (bs (p_prefix))] w fun v w' => v = .tuple #[.string (bs ((g_internal_stringslite_CutPrefix p_s p_prefix).1)), .bool ((g_internal_stringslite_CutPrefix p_s p_prefix).2)] ∧ okS ((g_internal_stringslite_CutPrefix p_s p_prefix).1) ∧ Ex w w' := by
 have hol3 : p_s.length ≤ 1073741824 := o1
 have hol4 : p_prefix.length ≤ 1073741824 := o2
 refine Cal.of (vs := [.string (bs (p_s)), .string (bs (p_prefix))]) Try.func205 rfl Try.ntmps205 rfl (CW.seq (CW.region (sd rfl (yl_assign rfl rfl (sd rfl (yl_assign rfl rfl (SeqR.done (tn (CW.seq (CW.seq ?_))))))))))
 refine CW.region (sd rfl (yl_move rfl rfl (sd rfl (yl_move rfl rfl (sd rfl (yl_call Try.en220 rfl (opvs_cons rfl (opvs_cons rfl opvs_nil)) (Cal.mono (c_g_internal_stringslite_HasPrefix p_s p_prefix o1 o2) ?_)))))))
 rintro v6 w5 ⟨rfl, hE7⟩
 have hE7z := Ex.size hE7
 refine sd rfl (yl_not rfl rfl (SeqR.done (tn (bcase (g_internal_stringslite_HasPrefix p_s p_prefix) (fun hb8 => ?_) (fun hb8 => ?_)))))
 ·have hb8p := f_HasPrefix hb8
  refine CW.cond_f rfl (not_t hb8) (CW.skip (tn (CW.seq (CW.region (sd rfl (yl_move rfl rfl (sd rfl (yl_move rfl rfl (sd rfl (yl_slen Try.un9 (a := p_prefix) rfl rfl (sd rfl (yl_sslice_lo Try.un9 (a := p_s) (l := p_prefix.length) rfl rfl rfl (by omega) ?_))))))))))))
  refine sd rfl (yl_assign rfl rfl (sd rfl (yl_assign rfl rfl (SeqR.done (tn (CW.ret (rr rfl (.cons rfl (.cons rfl .nil)) ?_)))))))
  have hM9 : (g_internal_stringslite_CutPrefix p_s p_prefix) = (((p_s.drop p_prefix.length), true)) := by simp only [g_internal_stringslite_CutPrefix, hb8, cond_true, cond_false, loopE_done, loopE_ret]
  rw [hM9]
  exact ⟨rfl, (okS.drop o1 _), (Ex.trans (Ex.refl w) hE7)⟩
 ·refine CW.cond_t rfl (not_f hb8) (CW.seq (CW.region (sd rfl (yl_move rfl rfl (sd rfl (yl_assign rfl rfl (sd rfl (yl_assign rfl rfl (SeqR.done (tn (CW.ret ?_)))))))))))
  refine tr (rr rfl (.cons rfl (.cons rfl .nil)) ?_)
  have hM11 : (g_internal_stringslite_CutPrefix p_s p_prefix) = ((p_s, false)) := by simp only [g_internal_stringslite_CutPrefix, hb8, cond_true, cond_false, loopE_done, loopE_ret]
  rw [hM11]
  exact ⟨rfl, o1, (Ex.trans (Ex.refl w) hE7)⟩
set_option maxRecDepth 100000 in
set_option maxHeartbeats 2000000 in
theorem c_g_strings_CutPrefix {w : World} (p_s : Str) (p_prefix : Str) (o1 : okS p_s) (o2 : okS p_prefix) : Cal Try.prog 178 #[.string (bs (p_s)), .string (bs (p_prefix))] w fun v w' => v = .tuple #[.string (bs ((g_strings_CutPrefix p_s p_prefix).1)), .bool ((g_strings_CutPrefix p_s p_prefix).2)] ∧ okS ((g_strings_CutPrefix p_s p_prefix).1) ∧ Ex w w' := by
 have hol3 : p_s.length ≤ 1073741824 := o1
 have hol4 : p_prefix.length ≤ 1073741824 := o2
 refine Cal.of (vs := [.string (bs (p_s)), .string (bs (p_prefix))]) Try.func178 rfl Try.ntmps178 rfl (CW.seq (CW.region (sd rfl (yl_assign rfl rfl (sd rfl (yl_assign rfl rfl (SeqR.done (tn (CW.seq (CW.region ?_))))))))))
 refine sd rfl (yl_move rfl rfl (sd rfl (yl_move rfl rfl (sd rfl (yl_call Try.en205 rfl (opvs_cons rfl (opvs_cons rfl opvs_nil)) (Cal.mono (c_g_internal_stringslite_CutPrefix p_s p_prefix o1 o2) ?_))))))
 rintro v7 w5 ⟨rfl, ho6, hE8⟩
 have hE8z := Ex.size hE8
 refine sd rfl (yl_extract rfl rfl rfl (sd rfl (yl_extract rfl rfl rfl (sd rfl (yl_assign rfl rfl (sd rfl (yl_assign rfl rfl (SeqR.done (tn (CW.ret (rr rfl (.cons rfl (.cons rfl .nil)) ?_)))))))))))
 have hM9 : (g_strings_CutPrefix p_s p_prefix) = (((g_internal_stringslite_CutPrefix p_s p_prefix).1, (g_internal_stringslite_CutPrefix p_s p_prefix).2)) := by simp only [g_strings_CutPrefix, cond_true, cond_false, loopE_done, loopE_ret]
 rw [hM9]
 exact ⟨rfl, ho6, (Ex.trans (Ex.refl w) hE8)⟩
set_option maxRecDepth 100000 in
set_option maxHeartbeats 2000000 in
theorem c_g_internal_bytealg_Cutover {w : World} (p_n : Int) : Cal Try.prog 226 #[.int .i64 (p_n)] w fun v w' => v = .int .i64 ((g_internal_bytealg_Cutover p_n)) ∧ Ex w w' := by
 refine Cal.of (vs := [.int .i64 (p_n)]) Try.func226 rfl Try.ntmps226 rfl (CW.seq (CW.region (sd rfl (yl_assign rfl rfl (SeqR.done (tn (CW.seq (CW.region (sd rfl (yl_move rfl rfl ?_))))))))))
 refine sd rfl (yl_add rfl rfl rfl (sd rfl (yl_quo rfl rfl rfl (by decide) (sd rfl (yl_assign rfl rfl (SeqR.done (tn (CW.ret (rr rfl (.cons rfl .nil) ?_)))))))))
 have hM1 : (g_internal_bytealg_Cutover p_n) = (IntKind.wrap .i64 (Int.tdiv (IntKind.wrap .i64 (p_n + 16)) 8)) := by simp only [g_internal_bytealg_Cutover, cond_true, cond_false, loopE_done, loopE_ret]
 rw [hM1]
 exact ⟨rfl, (Ex.refl w)⟩
set_option maxRecDepth 100000 in
set_option maxHeartbeats 2000000 in
theorem c_g_internal_stringslite_Index {w : World} (p_0 : Str) (p_1 : Str) (o1 : okS p_0) (o2 : okS p_1) (pre0 : p_1.length = 1) : Cal Try.prog 221 #[.string (bs (p_0)), .string (bs (p_1))] w fun v w' => v = .int .i64 ((g_internal_stringslite_Index p_0 p_1)) ∧ Ex w w' := by
 have hol3 : p_0.length ≤ 1073741824 := o1
 have hol4 : p_1.length ≤ 1073741824 := o2
 refine Cal.of (vs := [.string (bs (p_0)), .string (bs (p_1))]) Try.func221 rfl Try.ntmps221 rfl (CW.seq (CW.region (sd rfl (yl_assign rfl rfl (SeqR.done (tn (CW.seq (CW.region (sd rfl (yl_move rfl rfl ?_))))))))))
 refine sd rfl (yl_slen Try.un9 (a := p_1) rfl rfl (sd rfl (yl_assign rfl rfl (SeqR.done (tn (CW.seq (CW.block (CW.seq (CW.region (sd rfl (yl_move rfl rfl ?_)))))))))))
 refine sd rfl (yl_eql rfl rfl rfl (sd rfl (yl_move rfl rfl (sy rfl rfl (decide_eq_false (by omega)) (yl_move rfl rfl (sy rfl rfl (decide_eq_false (by omega)) (yl_move rfl rfl (sy rfl rfl (decide_eq_false (by omega)) (yl_seql (a := p_1) (b := p_0) rfl rfl rfl (sd rfl (yl_pick_f rfl rfl (decide_eq_false (by omega)) rfl (sd rfl (yl_assign rfl rfl (SeqR.done (tn ?_)))))))))))))))
 refine bcase (p_1 == p_0) (fun hb5 => ?_) (fun hb5 => ?_)
 ·refine CW.cond_t rfl hb5 (CW.seq (CW.region (sd rfl (yl_assign rfl rfl (SeqR.done (tn (CW.ret (br (tr ?_)))))))))
  refine rr rfl (.cons rfl .nil) ?_
  have hM6 : (g_internal_stringslite_Index p_0 p_1) = (0) := by simp only [g_internal_stringslite_Index, hb5, cond_true, cond_false, loopE_done, loopE_ret]
  rw [hM6]
  exact ⟨rfl, (Ex.refl w)⟩
 ·refine CW.cond_f rfl hb5 (CW.seq (CW.region (sd rfl (yl_move rfl rfl (sd rfl (yl_eql rfl rfl rfl (sd rfl (yl_assign rfl rfl (SeqR.done (tn (CW.cond_t rfl (decide_eq_true (by omega)) ?_)))))))))))
  refine CW.seq (CW.region (sd rfl (yl_move rfl rfl (sd rfl (yl_move rfl rfl (sd rfl (yl_sindexN Try.un9 (a := p_1) rfl rfl rfl (by first | omega | assumption | (simp only [IntKind.wrap_i64] at *; omega)) (sd rfl (yl_call Try.en222 rfl (opvs_cons rfl (opvs_cons rfl opvs_nil)) (Cal.mono (c_g_internal_stringslite_IndexByte p_0 ((p_1.getD 0 0).toNat : Int) o1) ?_))))))))))
  rintro v8 w7 ⟨rfl, hE9⟩
  have hE9z := Ex.size hE9
  refine sd rfl (yl_assign rfl rfl (SeqR.done (tn (CW.ret (br (tr (rr rfl (.cons rfl .nil) ?_)))))))
  have hM10 : (g_internal_stringslite_Index p_0 p_1) = ((g_internal_stringslite_IndexByte p_0 ((p_1.getD 0 0).toNat : Int))) := by simp only [g_internal_stringslite_Index, hb5, cond_true, cond_false, loopE_done, loopE_ret]
  rw [hM10]
  exact ⟨rfl, (Ex.trans (Ex.refl w) hE9)⟩
set_option maxRecDepth 100000 in
set_option maxHeartbeats 2000000 in
theorem c_g_internal_stringslite_Cut {w : World} (p_s : Str) (p_sep : Str) (o1 : okS p_s) (o2 : okS p_sep) (pre0 : p_sep.length = 1) : Cal Try.prog 206 #[.string (bs (p_s)), .string (bs (p_sep))] w fun v w' => v = .tuple #[.string (bs ((g_internal_stringslite_Cut p_s p_sep).1)), .string (bs ((g_internal_stringslite_Cut p_s p_sep).2.1)), .bool ((g_internal_stringslite_Cut p_s p_sep).2.2)] ∧ okS ((g_internal_stringslite_Cut p_s p_sep).1) ∧ okS ((g_internal_stringslite_Cut p_s p_sep).2.1) ∧ Ex w w' := by
 have hol3 : p_s.length ≤ 1073741824 := o1
 have hol4 : p_sep.length ≤ 1073741824 := o2
 refine Cal.of (vs := [.string (bs (p_s)), .string (bs (p_sep))]) Try.func206 rfl Try.ntmps206 rfl (CW.seq (CW.region (sd rfl (yl_assign rfl rfl (sd rfl (yl_assign rfl rfl (sd rfl (yl_assign rfl rfl (SeqR.done (tn (CW.seq ?_)))))))))))
 refine CW.seq (CW.region (sd rfl (yl_move rfl rfl (sd rfl (yl_move rfl rfl (sd rfl (yl_call Try.en221 rfl (opvs_cons rfl (opvs_cons rfl opvs_nil)) (Cal.mono (c_g_internal_stringslite_Index p_s p_sep o1 o2 (by first | omega | assumption | (simp only [IntKind.wrap_i64] at *; omega))) ?_))))))))
 rintro v6 w5 ⟨rfl, hE7⟩
 have hE7z := Ex.size hE7
 have hrf8 := rf_Index (s := p_s) (sub := p_sep) (by first | omega | assumption | (simp only [IntKind.wrap_i64] at *; omega))
 refine sd rfl (yl_assign rfl rfl (SeqR.done (tn (CW.seq (CW.region (sd rfl (yl_move rfl rfl (sd rfl (yl_geq rfl rfl rfl (SeqR.done (tn ?_)))))))))))
 refine bcase (decide (0 ≤ (g_internal_stringslite_Index p_s p_sep))) (fun hb9 => ?_) (fun hb9 => ?_)
 ·have hb9p := dec_t hb9
  have hb9q := f_Cut o1 pre0 hb9
  refine CW.cond_t rfl hb9 (CW.seq (CW.drawsI 12 (vgetI [DetI (.string (bs (p_s))), DetI (.int .i64 ((g_internal_stringslite_Index p_s p_sep))), DetI (.string (bs ((p_s.take (((g_internal_stringslite_Index p_s p_sep)).toNat))))), DetI (.string (bs (p_s))), DetI (.int .i64 ((g_internal_stringslite_Index p_s p_sep))), DetI (.string (bs (p_sep))), DetI (.int .i64 ((p_sep.length : Int))), DetI (.int .i64 (IntKind.wrap .i64 ((g_internal_stringslite_Index p_s p_sep) + (p_sep.length : Int)))), DetI (.string (bs ((p_s.drop ((IntKind.wrap .i64 ((g_internal_stringslite_Index p_s p_sep) + (p_sep.length : Int))).toNat))))), DetI (.string (bs ((p_s.take (((g_internal_stringslite_Index p_s p_sep)).toNat))))), DetI (.string (bs ((p_s.drop ((IntKind.wrap .i64 ((g_internal_stringslite_Index p_s p_sep) + (p_sep.length : Int))).toNat))))), DetI (.bool (true))]) Try.follows rfl rfl rfl rfl rfl rfl (vgetI_stable ⟨StableI.det _, StableI.det _, StableI.det _, StableI.det _, StableI.det _, StableI.det _, StableI.det _, StableI.det _, StableI.det _, StableI.det _, StableI.det _, StableI.det _, trivial⟩) ⟨?_, ?_, ?_, ?_, ?_, ?_, ?_, ?_, ?_, ?_, ?_, ?_, trivial⟩ ?_))
  ·exact fun _ _ h => os rfl ((yl_move rfl (h.old 0 _ rfl rfl) kI))
  ·exact fun _ _ h => os rfl ((yl_move rfl (h.old 7 _ rfl rfl) kI))
  ·intro L20 w21 hi22
   have hE23 := hi22.ex
   have hE23z := Ex.size hE23
   exact os rfl ((yl_sslice_hi Try.un9 (a := p_s) (h := ((g_internal_stringslite_Index p_s p_sep)).toNat) rfl (hi22.dt 0 13 rfl rfl rfl) (toNat_op (hi22.dt 1 14 rfl rfl rfl) (by omega)) (by omega) kI))
  ·exact fun _ _ h => os rfl ((yl_move rfl (h.old 0 _ rfl rfl) kI))
  ·exact fun _ _ h => os rfl ((yl_move rfl (h.old 7 _ rfl rfl) kI))
  ·exact fun _ _ h => os rfl ((yl_move rfl (h.old 1 _ rfl rfl) kI))
  ·exact fun _ _ h => os rfl ((yl_slen Try.un9 (a := p_sep) rfl (h.dt 5 18 rfl rfl rfl) kI))
  ·exact fun _ _ h => os rfl ((yl_add rfl (h.dt 4 17 rfl rfl rfl) (h.dt 6 19 rfl rfl rfl) kI))
  ·intro L52 w53 hi54
   have hE55 := hi54.ex
   have hE55z := Ex.size hE55
   exact os rfl ((yl_sslice_lo Try.un9 (a := p_s) (l := (IntKind.wrap .i64 ((g_internal_stringslite_Index p_s p_sep) + (p_sep.length : Int))).toNat) rfl (hi54.dt 3 16 rfl rfl rfl) (toNat_op (hi54.dt 7 20 rfl rfl rfl) (by omega)) (by omega) kI))
  ·exact fun _ _ h => os rfl ((yl_assign rfl (h.dt 2 15 rfl rfl rfl) kI))
  ·exact fun _ _ h => os rfl ((yl_assign rfl (h.dt 8 21 rfl rfl rfl) kI))
  ·exact fun _ _ h => os rfl ((yl_assign rfl rfl kI))
  ·intro fl75 fh76 L72 w73 hp74
   have hE77 := hp74.ex
   have hE77z := Ex.size hE77
   refine SeqR.done (tn (CW.sub (Sub.cons (d := 4) (hp74.nt 9 4 rfl rfl rfl) (Sub.cons (d := 5) (hp74.nt 10 5 rfl rfl rfl) (Sub.cons (d := 6) (hp74.nt 11 6 rfl rfl rfl) (Sub.nil _)))) (CW.ret (tr (rr rfl (.cons rfl (.cons rfl (.cons rfl .nil))) ?_)))))
   have hM81 : (g_internal_stringslite_Cut p_s p_sep) = (((p_s.take (((g_internal_stringslite_Index p_s p_sep)).toNat)), (p_s.drop ((IntKind.wrap .i64 ((g_internal_stringslite_Index p_s p_sep) + (p_sep.length : Int))).toNat)), true)) := by simp only [g_internal_stringslite_Cut, hb9, cond_true, cond_false, loopE_done, loopE_ret]
   rw [hM81]
   exact ⟨rfl, (okS.take o1 _), (okS.drop o1 _), (Ex.trans (Ex.trans (Ex.refl w) hE7) hE77)⟩
 ·have hb9p := dec_f hb9
  refine CW.cond_f rfl hb9 (CW.skip (tn (CW.seq (CW.region (sd rfl (yl_move rfl rfl (sd rfl (yl_assign rfl rfl (sd rfl (yl_assign rfl rfl (sd rfl (yl_assign rfl rfl ?_))))))))))))
  refine SeqR.done (tn (CW.ret (rr rfl (.cons rfl (.cons rfl (.cons rfl .nil))) ?_)))
  have hM84 : (g_internal_stringslite_Cut p_s p_sep) = ((p_s, ([] : Str), false)) := by simp only [g_internal_stringslite_Cut, hb9, cond_true, cond_false, loopE_done, loopE_ret]
  rw [hM84]
  exact ⟨rfl, o1, (okS.lit rfl), (Ex.trans (Ex.refl w) hE7)⟩
set_option maxRecDepth 100000 in
set_option maxHeartbeats 2000000 in
theorem c_g_strings_Cut {w : World} (p_s : Str) (p_sep : Str) (o1 : okS p_s) (o2 : okS p_sep) (pre0 : p_sep.length = 1) : Cal Try.prog 179 #[.string (bs (p_s)), .string (bs (p_sep))] w fun v w' => v = .tuple #[.string (bs ((g_strings_Cut p_s p_sep).1)), .string (bs ((g_strings_Cut p_s p_sep).2.1)), .bool ((g_strings_Cut p_s p_sep).2.2)] ∧ okS ((g_strings_Cut p_s p_sep).1) ∧ okS ((g_strings_Cut p_s p_sep).2.1) ∧ Ex w w' := by
 have hol3 : p_s.length ≤ 1073741824 := o1
 have hol4 : p_sep.length ≤ 1073741824 := o2
 refine Cal.of (vs := [.string (bs (p_s)), .string (bs (p_sep))]) Try.func179 rfl Try.ntmps179 rfl (CW.seq (CW.region (sd rfl (yl_assign rfl rfl (sd rfl (yl_assign rfl rfl (sd rfl (yl_assign rfl rfl (SeqR.done (tn (CW.seq ?_)))))))))))
 refine CW.region (sd rfl (yl_move rfl rfl (sd rfl (yl_move rfl rfl (sd rfl (yl_call Try.en206 rfl (opvs_cons rfl (opvs_cons rfl opvs_nil)) (Cal.mono (c_g_internal_stringslite_Cut p_s p_sep o1 o2 (by first | omega | assumption | (simp only [IntKind.wrap_i64] at *; omega))) ?_)))))))
 rintro v8 w5 ⟨rfl, ho6, ho7, hE9⟩
 have hE9z := Ex.size hE9
 refine sd rfl (yl_extract rfl rfl rfl (sd rfl (yl_extract rfl rfl rfl (sd rfl (yl_extract rfl rfl rfl (sd rfl (yl_assign rfl rfl (sd rfl (yl_assign rfl rfl (sd rfl (yl_assign rfl rfl (SeqR.done (tn (CW.ret ?_))))))))))))))
 refine rr rfl (.cons rfl (.cons rfl (.cons rfl .nil))) ?_
 have hM10 : (g_strings_Cut p_s p_sep) = (((g_internal_stringslite_Cut p_s p_sep).1, (g_internal_stringslite_Cut p_s p_sep).2.1, (g_internal_stringslite_Cut p_s p_sep).2.2)) := by simp only [g_strings_Cut, cond_true, cond_false, loopE_done, loopE_ret]
 rw [hM10]
 exact ⟨rfl, ho6, ho7, (Ex.trans (Ex.refl w) hE9)⟩
set_option maxRecDepth 100000 in
set_option maxHeartbeats 2000000 in
theorem c_i_Table_readIdxKey {A1 : Option Addr} {c1 : Nat} {A2 : Option Addr} {c2 : Nat} {w : World} (p_t : DTable) (p_name : Str) (p_key : Str) (h1 : RdS w (Iv 0 w.heap.size) (RF e_Str) 1 A1 p_t.Cols.length c1 p_t.Cols) (h2 : RdS w (Iv 0 w.heap.size) (RF e_Idx) 3 A2 p_t.Idxs.length c2 p_t.Idxs) (o3 : ok_Table p_t) (o4 : okS p_name) (o5 : okS p_key) (pre0 : (p_t.Name.length ≤ 1 ∧ p_name.length ≤ 1)) : Cal Try.prog 120 #[.agg #[.string (bs (p_t.Name)), .slice A1 p_t.Cols.length c1, .slice A2 p_t.Idxs.length c2], .string (bs (p_name)), .string (bs (p_key))] w fun v w' => v = .tuple #[.string (bs ((i_Table_readIdxKey p_t p_name p_key).1)), .string (bs ((i_Table_readIdxKey p_t p_name p_key).2.1)), .bool ((i_Table_readIdxKey p_t p_name p_key).2.2)] ∧ okS ((i_Table_readIdxKey p_t p_name p_key).1) ∧ okS ((i_Table_readIdxKey p_t p_name p_key).2.1) ∧ Ex w w' := by
 have hol6 : p_t.Name.length ≤ 1073741824 := o3.1
 have hol7 := o3.2.1.1
 have hol8 := o3.2.2.1
 have hol9 : p_name.length ≤ 1073741824 := o4
 have hol10 : p_key.length ≤ 1073741824 := o5
 refine Cal.of (vs := [.agg #[.string (bs (p_t.Name)), .slice A1 p_t.Cols.length c1, .slice A2 p_t.Idxs.length c2], .string (bs (p_name)), .string (bs (p_key))]) Try.func120 rfl Try.ntmps120 rfl (CW.seq (CW.region (sd rfl (yl_box (cs := [.string (bs (p_t.Name)), .slice A1 p_t.Cols.length c1, .slice A2 p_t.Idxs.length c2]) rfl rfl rfl ?_))))
 intro b11 w12 hs13 hz14 hB15 hE16
 refine sd rfl (yl_assign rfl rfl (sd rfl (yl_assign rfl rfl (sd rfl (yl_assign rfl rfl (SeqR.done (tn (CW.seq (CW.region (sd rfl (yl_move rfl rfl (sd rfl (yl_loadN (cs := [.string (bs (p_t.Name)), .slice A1 p_t.Cols.length c1, .slice A2 p_t.Idxs.length c2]) Try.ty35 rfl rfl (hB15.cells (n := 3) rfl) rfl ?_)))))))))))))
 refine sd rfl (yl_move rfl rfl (sd rfl (yl_call Try.en160 rfl (opvs_cons rfl (opvs_cons rfl opvs_nil)) (Cal.mono (c_i_Table_idxHead p_t p_name (RdS.up (RdS.ex good_Str h1 hE16) good_Str) (RdS.up (RdS.ex good_Idx h2 hE16) good_Idx) o3 o4) ?_))))
 rintro v20 w19 ⟨rfl, hE21⟩
 have hE21z := Ex.size hE21
 have hrf22 := rf_idxHead p_t p_name
 refine sd rfl (yl_call Try.en178 rfl (opvs_cons rfl (opvs_cons rfl opvs_nil)) (Cal.mono (c_g_strings_CutPrefix p_key (i_Table_idxHead p_t p_name) o5 (okS_idxHead pre0)) ?_))
 rintro v25 w23 ⟨rfl, ho24, hE26⟩
 have hE26z := Ex.size hE26
 refine sd rfl (yl_move rfl rfl (sd rfl (yl_extract rfl rfl rfl (sd rfl (yl_extract rfl rfl rfl (sd rfl (yl_assign rfl rfl (sd rfl (yl_assign rfl rfl (SeqR.done (tn (CW.seq (CW.region ?_)))))))))))))
 refine sd rfl (yl_move rfl rfl (sd rfl (yl_call Try.en179 rfl (opvs_cons rfl (opvs_cons rfl opvs_nil)) (Cal.mono (c_g_strings_Cut ((g_strings_CutPrefix p_key (i_Table_idxHead p_t p_name)).1) ([47] : Str) ho24 (okS.lit rfl) rfl) ?_))))
 rintro v30 w27 ⟨rfl, ho28, ho29, hE31⟩
 have hE31z := Ex.size hE31
 refine sd rfl (yl_move rfl rfl (sd rfl (yl_extract rfl rfl rfl (sd rfl (yl_extract rfl rfl rfl (sd rfl (yl_extract rfl rfl rfl (sd rfl (yl_assign rfl rfl (sd rfl (yl_assign rfl rfl (sd rfl (yl_assign rfl rfl (SeqR.done (tn ?_)))))))))))))))
 refine CW.seq (CW.seq (CW.region (sd rfl (yl_move rfl rfl (sd rfl (yl_not rfl rfl (sd rfl (yl_move rfl rfl (bcase ((g_strings_CutPrefix p_key (i_Table_idxHead p_t p_name)).2) (fun hb32 => ?_) (fun hb32 => ?_))))))))))
 ·refine sy rfl rfl (not_t hb32) (yl_move rfl rfl (sy rfl rfl (not_t hb32) (yl_not rfl rfl (sd rfl (yl_pick_f rfl rfl (not_t hb32) rfl (sd rfl (yl_move rfl rfl (bcase ((g_strings_Cut ((g_strings_CutPrefix p_key (i_Table_idxHead p_t p_name)).1) ([47] : Str)).2.2) (fun hb33 => ?_) (fun hb33 => ?_)))))))))
  ·refine sy rfl rfl (not_t hb33) (yl_move rfl rfl (sy rfl rfl (not_t hb33) (yl_call Try.en150 rfl (opvs_cons rfl opvs_nil) (Cal.mono (c_i_isField ((g_strings_Cut ((g_strings_CutPrefix p_key (i_Table_idxHead p_t p_name)).1) ([47] : Str)).1) ho28) ?_))))
   rintro v35 w34 ⟨rfl, hE36⟩
   have hE36z := Ex.size hE36
   refine sy rfl rfl (not_t hb33) (yl_not rfl rfl (sd rfl (yl_pick_f rfl rfl (not_t hb33) rfl (sd rfl (yl_move rfl rfl (bcase (i_isField ((g_strings_Cut ((g_strings_CutPrefix p_key (i_Table_idxHead p_t p_name)).1) ([47] : Str)).1)) (fun hb37 => ?_) (fun hb37 => ?_)))))))
   ·refine sy rfl rfl (not_t hb37) (yl_move rfl rfl (sy rfl rfl (not_t hb37) (yl_call Try.en150 rfl (opvs_cons rfl opvs_nil) (Cal.mono (c_i_isField ((g_strings_Cut ((g_strings_CutPrefix p_key (i_Table_idxHead p_t p_name)).1) ([47] : Str)).2.1) ho29) ?_))))
    rintro v39 w38 ⟨rfl, hE40⟩
    have hE40z := Ex.size hE40
    refine sy rfl rfl (not_t hb37) (yl_not rfl rfl (sd rfl (yl_pick_f rfl rfl (not_t hb37) rfl (SeqR.done (tn (bcase (i_isField ((g_strings_Cut ((g_strings_CutPrefix p_key (i_Table_idxHead p_t p_name)).1) ([47] : Str)).2.1)) (fun hb41 => ?_) (fun hb41 => ?_)))))))
    ·refine CW.cond_f rfl (not_t hb41) (CW.skip (tn (CW.seq (CW.region (sd rfl (yl_move rfl rfl (sd rfl (yl_move rfl rfl (sd rfl (yl_assign rfl rfl (sd rfl (yl_assign rfl rfl ?_))))))))))))
     refine sd rfl (yl_assign rfl rfl (SeqR.done (tn (CW.ret (rr rfl (.cons rfl (.cons rfl (.cons rfl .nil))) ?_)))))
     have hM42 : (i_Table_readIdxKey p_t p_name p_key) = (((g_strings_Cut ((g_strings_CutPrefix p_key (i_Table_idxHead p_t p_name)).1) ([47] : Str)).1, (g_strings_Cut ((g_strings_CutPrefix p_key (i_Table_idxHead p_t p_name)).1) ([47] : Str)).2.1, true)) := by simp only [i_Table_readIdxKey, hb32, hb33, hb37, hb41, cond_true, cond_false, loopE_done, loopE_ret]
     rw [hM42]
     exact ⟨rfl, ho28, ho29, (Ex.trans (Ex.trans (Ex.trans (Ex.trans (Ex.trans (Ex.trans (Ex.refl w) hE16) hE21) hE26) hE31) hE36) hE40)⟩
    ·refine CW.cond_t rfl (not_f hb41) (CW.seq (CW.region (sd rfl (yl_assign rfl rfl (sd rfl (yl_assign rfl rfl (sd rfl (yl_assign rfl rfl (SeqR.done (tn (CW.ret ?_)))))))))))
     refine tr (rr rfl (.cons rfl (.cons rfl (.cons rfl .nil))) ?_)
     have hM49 : (i_Table_readIdxKey p_t p_name p_key) = ((([] : Str), ([] : Str), false)) := by simp only [i_Table_readIdxKey, hb32, hb33, hb37, hb41, cond_true, cond_false, loopE_done, loopE_ret]
     rw [hM49]
     exact ⟨rfl, (okS.lit rfl), (okS.lit rfl), (Ex.trans (Ex.trans (Ex.trans (Ex.trans (Ex.trans (Ex.trans (Ex.refl w) hE16) hE21) hE26) hE31) hE36) hE40)⟩
   ·refine sz rfl rfl (not_f hb37) (sz rfl rfl (not_f hb37) (sz rfl rfl (not_f hb37) (sd rfl (yl_pick_t rfl rfl (not_f hb37) rfl (SeqR.done (tn (CW.cond_t rfl rfl (CW.seq (CW.region ?_)))))))))
    refine sd rfl (yl_assign rfl rfl (sd rfl (yl_assign rfl rfl (sd rfl (yl_assign rfl rfl (SeqR.done (tn (CW.ret (tr (rr rfl (.cons rfl (.cons rfl (.cons rfl .nil))) ?_))))))))))
    have hM56 : (i_Table_readIdxKey p_t p_name p_key) = ((([] : Str), ([] : Str), false)) := by simp only [i_Table_readIdxKey, hb32, hb33, hb37, cond_true, cond_false, loopE_done, loopE_ret]
    rw [hM56]
    exact ⟨rfl, (okS.lit rfl), (okS.lit rfl), (Ex.trans (Ex.trans (Ex.trans (Ex.trans (Ex.trans (Ex.refl w) hE16) hE21) hE26) hE31) hE36)⟩
  ·refine sz rfl rfl (not_f hb33) (sz rfl rfl (not_f hb33) (sz rfl rfl (not_f hb33) (sd rfl (yl_pick_t rfl rfl (not_f hb33) rfl (sd rfl (yl_move rfl rfl (sz rfl rfl rfl (sz rfl rfl rfl (sz rfl rfl rfl (sd rfl (yl_pick_t rfl rfl rfl rfl ?_)))))))))))
   refine SeqR.done (tn (CW.cond_t rfl rfl (CW.seq (CW.region (sd rfl (yl_assign rfl rfl (sd rfl (yl_assign rfl rfl (sd rfl (yl_assign rfl rfl (SeqR.done ?_)))))))))))
   refine tn (CW.ret (tr (rr rfl (.cons rfl (.cons rfl (.cons rfl .nil))) ?_)))
   have hM62 : (i_Table_readIdxKey p_t p_name p_key) = ((([] : Str), ([] : Str), false)) := by simp only [i_Table_readIdxKey, hb32, hb33, cond_true, cond_false, loopE_done, loopE_ret]
   rw [hM62]
   exact ⟨rfl, (okS.lit rfl), (okS.lit rfl), (Ex.trans (Ex.trans (Ex.trans (Ex.trans (Ex.refl w) hE16) hE21) hE26) hE31)⟩
 ·refine sz rfl rfl (not_f hb32) (sz rfl rfl (not_f hb32) (sd rfl (yl_pick_t rfl rfl (not_f hb32) rfl (sd rfl (yl_move rfl rfl (sz rfl rfl rfl (sz rfl rfl rfl (sz rfl rfl rfl (sd rfl (yl_pick_t rfl rfl rfl rfl (sd rfl (yl_move rfl rfl ?_))))))))))))
  refine sz rfl rfl rfl (sz rfl rfl rfl (sz rfl rfl rfl (sd rfl (yl_pick_t rfl rfl rfl rfl (SeqR.done (tn (CW.cond_t rfl rfl (CW.seq (CW.region ?_)))))))))
  refine sd rfl (yl_assign rfl rfl (sd rfl (yl_assign rfl rfl (sd rfl (yl_assign rfl rfl (SeqR.done (tn (CW.ret (tr (rr rfl (.cons rfl (.cons rfl (.cons rfl .nil))) ?_))))))))))
  have hM67 : (i_Table_readIdxKey p_t p_name p_key) = ((([] : Str), ([] : Str), false)) := by simp only [i_Table_readIdxKey, hb32, cond_true, cond_false, loopE_done, loopE_ret]
  rw [hM67]
  exact ⟨rfl, (okS.lit rfl), (okS.lit rfl), (Ex.trans (Ex.trans (Ex.trans (Ex.trans (Ex.refl w) hE16) hE21) hE26) hE31)⟩
set_option maxRecDepth 100000 in
set_option maxHeartbeats 2000000 in
theorem c_i_ReadIdxKey {A1 : Option Addr} {c1 : Nat} {A2 : Option Addr} {c2 : Nat} {w : World} (p_t : DTable) (p_name : Str) (p_key : Str) (h1 : RdS w (Iv 0 w.heap.size) (RF e_Str) 1 A1 p_t.Cols.length c1 p_t.Cols) (h2 : RdS w (Iv 0 w.heap.size) (RF e_Idx) 3 A2 p_t.Idxs.length c2 p_t.Idxs) (o3 : ok_Table p_t) (o4 : okS p_name) (o5 : okS p_key) : Cal Try.prog 60 #[.agg #[.string (bs (p_t.Name)), .slice A1 p_t.Cols.length c1, .slice A2 p_t.Idxs.length c2], .string (bs (p_name)), .string (bs (p_key))] w fun v w' => v = .tuple #[.string (bs ((i_ReadIdxKey p_t p_name p_key).1)), .string (bs ((i_ReadIdxKey p_t p_name p_key).2.1)), .bool ((i_ReadIdxKey p_t p_name p_key).2.2)] ∧ okS ((i_ReadIdxKey p_t p_name p_key).1) ∧ okS ((i_ReadIdxKey p_t p_name p_key).2.1) ∧ Ex w w' := by
 have hol6 : p_t.Name.length ≤ 1073741824 := o3.1
 have hol7 := o3.2.1.1
 have hol8 := o3.2.2.1
 have hol9 : p_name.length ≤ 1073741824 := o4
 have hol10 : p_key.length ≤ 1073741824 := o5
 refine Cal.of (vs := [.agg #[.string (bs (p_t.Name)), .slice A1 p_t.Cols.length c1, .slice A2 p_t.Idxs.length c2], .string (bs (p_name)), .string (bs (p_key))]) Try.func60 rfl Try.ntmps60 rfl (CW.seq (CW.region (sd rfl (yl_box (cs := [.string (bs (p_t.Name)), .slice A1 p_t.Cols.length c1, .slice A2 p_t.Idxs.length c2]) rfl rfl rfl ?_))))
 intro b11 w12 hs13 hz14 hB15 hE16
 refine sd rfl (yl_assign rfl rfl (sd rfl (yl_assign rfl rfl (sd rfl (yl_assign rfl rfl (SeqR.done (tn (CW.seq (CW.seq (CW.region (sd rfl (yl_loadN (cs := [.string (bs (p_t.Name)), .slice A1 p_t.Cols.length c1, .slice A2 p_t.Idxs.length c2]) Try.ty35 rfl rfl (hB15.cells (n := 3) rfl) rfl ?_))))))))))))
 refine sd rfl (yl_move rfl rfl ?_)
 have q17 := RdS.ex good_Str h1 hE16
 have q18 := RdS.ex good_Idx h2 hE16
 refine sd rfl (yl_call Try.en90 rfl (opvs_cons rfl (opvs_cons rfl opvs_nil)) (Cal.mono (c_i_hasIdx p_t p_name (RdS.up q17 good_Str) (RdS.up q18 good_Idx) o3 o4) ?_))
 rintro v20 w19 ⟨rfl, hE21⟩
 have hE21z := Ex.size hE21
 refine sd rfl (yl_not rfl rfl (SeqR.done (tn (bcase (i_hasIdx p_t p_name) (fun hb22 => ?_) (fun hb22 => ?_)))))
 ·obtain ⟨hb22p0, hb22p1, hb22p2⟩ := f_i_hasIdx hb22
  refine CW.cond_f rfl (not_t hb22) (CW.skip (tn (CW.seq (CW.region (sd rfl (yl_loadN (cs := [.string (bs (p_t.Name)), .slice A1 p_t.Cols.length c1, .slice A2 p_t.Idxs.length c2]) Try.ty35 rfl rfl ((Box.ex hB15 hE21).cells (n := 3) rfl) rfl (sd rfl (yl_move rfl rfl (sd rfl (yl_move rfl rfl (sd rfl (yl_call Try.en120 rfl (opvs_cons rfl (opvs_cons rfl (opvs_cons rfl opvs_nil))) (Cal.mono (c_i_Table_readIdxKey p_t p_name p_key (RdS.up (RdS.ex good_Str q17 hE21) good_Str) (RdS.up (RdS.ex good_Idx q18 hE21) good_Idx) o3 o4 o5 (by first | omega | assumption | (simp only [IntKind.wrap_i64] at *; omega))) ?_)))))))))))))
  rintro v29 w26 ⟨rfl, ho27, ho28, hE30⟩
  have hE30z := Ex.size hE30
  refine sd rfl (yl_extract rfl rfl rfl (sd rfl (yl_extract rfl rfl rfl (sd rfl (yl_extract rfl rfl rfl (sd rfl (yl_assign rfl rfl (sd rfl (yl_assign rfl rfl (sd rfl (yl_assign rfl rfl (SeqR.done (tn (CW.ret ?_))))))))))))))
  refine rr rfl (.cons rfl (.cons rfl (.cons rfl .nil))) ?_
  have hM31 : (i_ReadIdxKey p_t p_name p_key) = (((i_Table_readIdxKey p_t p_name p_key).1, (i_Table_readIdxKey p_t p_name p_key).2.1, (i_Table_readIdxKey p_t p_name p_key).2.2)) := by simp only [i_ReadIdxKey, hb22, cond_true, cond_false, loopE_done, loopE_ret]
  rw [hM31]
  exact ⟨rfl, ho27, ho28, (Ex.trans (Ex.trans (Ex.trans (Ex.refl w) hE16) hE21) hE30)⟩
 ·refine CW.cond_t rfl (not_f hb22) (CW.seq (CW.region (sd rfl (yl_assign rfl rfl (sd rfl (yl_assign rfl rfl (sd rfl (yl_assign rfl rfl (SeqR.done (tn (CW.ret ?_)))))))))))
  refine tr (rr rfl (.cons rfl (.cons rfl (.cons rfl .nil))) ?_)
  have hM35 : (i_ReadIdxKey p_t p_name p_key) = ((([] : Str), ([] : Str), false)) := by simp only [i_ReadIdxKey, hb22, cond_true, cond_false, loopE_done, loopE_ret]
  rw [hM35]
  exact ⟨rfl, (okS.lit rfl), (okS.lit rfl), (Ex.trans (Ex.trans (Ex.refl w) hE16) hE21)⟩
set_option maxRecDepth 100000 in
set_option maxHeartbeats 2000000 in
theorem c_l_FnExactReadIdxKey {A1 : Option Addr} {c1 : Nat} {A2 : Option Addr} {c2 : Nat} {w : World} (p_aT : DTable) (p_aName : Str) (p_aKey : Str) (h1 : RdS w (Iv 0 w.heap.size) (RF e_Str) 1 A1 p_aT.Cols.length c1 p_aT.Cols) (h2 : RdS w (Iv 0 w.heap.size) (RF e_Idx) 3 A2 p_aT.Idxs.length c2 p_aT.Idxs) (pre0 : wf_Table p_aT) (pre1 : wfS p_aName) (pre2 : wfS p_aKey) : Cal Try.prog 12 #[.agg #[.string (bs (p_aT.Name)), .slice A1 p_aT.Cols.length c1, .slice A2 p_aT.Idxs.length c2], .string (bs (p_aName)), .string (bs (p_aKey))] w fun v w' => v = .bool ((l_FnExactReadIdxKey p_aT p_aName p_aKey)) ∧ Ex w w' := by
 refine Cal.of (vs := [.agg #[.string (bs (p_aT.Name)), .slice A1 p_aT.Cols.length c1, .slice A2 p_aT.Idxs.length c2], .string (bs (p_aName)), .string (bs (p_aKey))]) Try.func12 rfl Try.ntmps12 rfl (CW.seq (CW.region (sd rfl (yl_box (cs := [.string (bs (p_aT.Name)), .slice A1 p_aT.Cols.length c1, .slice A2 p_aT.Idxs.length c2]) rfl rfl rfl ?_))))
 intro b3 w4 hs5 hz6 hB7 hE8
 refine sd rfl (yl_assign rfl rfl (SeqR.done (tn (CW.seq (CW.seq (CW.region (sd rfl (yl_move rfl rfl (sd rfl (yl_slen Try.un9 (a := p_aName) rfl rfl (sd rfl (yl_gtr rfl rfl rfl ?_))))))))))))
 refine SeqR.done (tn (bcase (decide (1048576 < (p_aName.length : Int))) (fun hb9 => ?_) (fun hb9 => ?_)))
 ·have hb9p := dec_t hb9
  refine CW.cond_t rfl hb9 (CW.seq (CW.region (sd rfl (yl_assign rfl rfl (SeqR.done (tn (CW.ret (tr (rr rfl (.cons rfl .nil) ?_)))))))))
  have hM10 : (l_FnExactReadIdxKey p_aT p_aName p_aKey) = (true) := by simp only [l_FnExactReadIdxKey, hb9, cond_true, cond_false, loopE_done, loopE_ret]
  rw [hM10]
  exact ⟨rfl, (Ex.trans (Ex.refl w) hE8)⟩
 ·have hb9p := dec_f hb9
  refine CW.cond_f rfl hb9 (CW.skip (tn (CW.seq (CW.seq (CW.region (sd rfl (yl_move rfl rfl (sd rfl (yl_slen Try.un9 (a := p_aKey) rfl rfl (sd rfl (yl_gtr rfl rfl rfl ?_)))))))))))
  refine SeqR.done (tn (bcase (decide (1048576 < (p_aKey.length : Int))) (fun hb12 => ?_) (fun hb12 => ?_)))
  ·have hb12p := dec_t hb12
   refine CW.cond_t rfl hb12 (CW.seq (CW.region (sd rfl (yl_assign rfl rfl (SeqR.done (tn (CW.ret (tr (rr rfl (.cons rfl .nil) ?_)))))))))
   have hM13 : (l_FnExactReadIdxKey p_aT p_aName p_aKey) = (true) := by simp only [l_FnExactReadIdxKey, hb9, hb12, cond_true, cond_false, loopE_done, loopE_ret]
   rw [hM13]
   exact ⟨rfl, (Ex.trans (Ex.refl w) hE8)⟩
  ·have hb12p := dec_f hb12
   refine CW.cond_f rfl hb12 (CW.skip (tn (CW.seq (CW.region (sd rfl (yl_assign rfl rfl (SeqR.done (tn (CW.seq ?_)))))))))
   refine CW.region (sd rfl (yl_loadN (cs := [.string (bs (p_aT.Name)), .slice A1 p_aT.Cols.length c1, .slice A2 p_aT.Idxs.length c2]) Try.ty25 rfl rfl (hB7.cells (n := 3) rfl) rfl (sd rfl (yl_move rfl rfl ?_))))
   have q15 := RdS.ex good_Str h1 hE8
   have q16 := RdS.ex good_Idx h2 hE8
   refine sd rfl (yl_call Try.en14 rfl (opvs_cons rfl (opvs_cons rfl opvs_nil)) (Cal.mono (c_l_szTable p_aT 1048576 (RdS.up q15 good_Str) (RdS.up q16 good_Idx)) ?_))
   rintro v18 w17 ⟨rfl, hE19⟩
   have hE19z := Ex.size hE19
   refine sd rfl (yl_assign rfl rfl (SeqR.done (tn (CW.seq (CW.seq (CW.region (sd rfl (yl_move rfl rfl (sd rfl (yl_lss rfl rfl rfl (SeqR.done ?_)))))))))))
   refine tn (bcase (decide ((l_szTable p_aT 1048576) < 0)) (fun hb20 => ?_) (fun hb20 => ?_))
   ·have hb20p := dec_t hb20
    refine CW.cond_t rfl hb20 (CW.seq (CW.region (sd rfl (yl_assign rfl rfl (SeqR.done (tn (CW.ret (tr (rr rfl (.cons rfl .nil) ?_)))))))))
    have hM21 : (l_FnExactReadIdxKey p_aT p_aName p_aKey) = (true) := by simp only [l_FnExactReadIdxKey, hb9, hb12, hb20, cond_true, cond_false, loopE_done, loopE_ret]
    rw [hM21]
    exact ⟨rfl, (Ex.trans (Ex.trans (Ex.refl w) hE8) hE19)⟩
   ·have hb20p := dec_f hb20
    refine CW.cond_f rfl hb20 (CW.skip (tn (CW.seq (CW.region ?_))))
    have q24 := Box.ex hB7 hE19
    refine sd rfl (yl_loadN (cs := [.string (bs (p_aT.Name)), .slice A1 p_aT.Cols.length c1, .slice A2 p_aT.Idxs.length c2]) Try.ty25 rfl rfl (q24.cells (n := 3) rfl) rfl ?_)
    have q25 := RdS.ex good_Str q15 hE19
    have q26 := RdS.ex good_Idx q16 hE19
    refine sd rfl (yl_call Try.en17 rfl (opvs_cons rfl opvs_nil) (Cal.mono (c_l_toTable p_aT (RdS.up q25 good_Str) (RdS.up q26 good_Idx) ((szok_Table pre0 (by decide) (dec_f hb20)).1)) ?_))
    rintro v30 w27 ⟨A28, c28, lo28, hi28, A29, c29, lo29, hi29, rfl, h28, h29, hrn32, hrn33, hrn34, hE31⟩
    have hE31z := Ex.size hE31
    refine sd rfl (yl_move rfl rfl (sd rfl (yl_move rfl rfl (sd rfl (yl_call Try.en59 rfl (opvs_cons rfl (opvs_cons rfl (opvs_cons rfl opvs_nil))) (Cal.mono (c_s_ReadIdxKey p_aT p_aName p_aKey (RdS.up (OwnL.rd good_Str h28) good_Str) (RdS.up (OwnL.rd good_Idx h29) good_Idx) ((szok_Table pre0 (by decide) (dec_f hb20)).1) (by unfold okS; omega) (by unfold okS; omega)) ?_))))))
    rintro v40 w37 ⟨rfl, ho38, ho39, hE41⟩
    have hE41z := Ex.size hE41
    refine sd rfl (yl_move rfl rfl (sd rfl (yl_extract rfl rfl rfl (sd rfl (yl_extract rfl rfl rfl (sd rfl (yl_extract rfl rfl rfl (sd rfl (yl_assign rfl rfl (sd rfl (yl_assign rfl rfl (sd rfl (yl_assign rfl rfl (SeqR.done (tn ?_)))))))))))))))
    refine CW.seq (CW.region ?_)
    have q43 := Box.ex (Box.ex q24 hE31) hE41
    refine sd rfl (yl_loadN (cs := [.string (bs (p_aT.Name)), .slice A1 p_aT.Cols.length c1, .slice A2 p_aT.Idxs.length c2]) Try.ty25 rfl rfl (q43.cells (n := 3) rfl) rfl ?_)
    have q45 := RdS.ex good_Str (RdS.ex good_Str q25 hE31) hE41
    have q47 := RdS.ex good_Idx (RdS.ex good_Idx q26 hE31) hE41
    refine sd rfl (yl_call Try.en17 rfl (opvs_cons rfl opvs_nil) (Cal.mono (c_l_toTable p_aT (RdS.up q45 good_Str) (RdS.up q47 good_Idx) ((szok_Table pre0 (by decide) (dec_f hb20)).1)) ?_))
    rintro v51 w48 ⟨A49, c49, lo49, hi49, A50, c50, lo50, hi50, rfl, h49, h50, hrn53, hrn54, hrn55, hE52⟩
    have hE52z := Ex.size hE52
    refine sd rfl (yl_alloc Try.ty35 (cs := [.string (bs (([] : Str))), .slice none 0 0, .slice none 0 0]) rfl rfl ?_)
    intro b56 w57 hs58 hz59 hB60 hE61
    refine SeqR.u rfl rfl (yl_store (vs := [.string (bs (p_aT.Name)), .slice A49 p_aT.Cols.length c49, .slice A50 p_aT.Idxs.length c50]) Try.ty35 rfl rfl rfl rfl rfl rfl hB60 (Nat.le_of_ble_eq_true rfl) ?_)
    intro w62 hB63 hO64
    have hB63 : Box w62 b56 35 [.string (bs (p_aT.Name)), .slice A49 p_aT.Cols.length c49, .slice A50 p_aT.Idxs.length c50] := hB63
    have hO64z := hO64.size
    refine SeqR.done (tn (CW.seq (CW.region (sd rfl (yl_loadN (cs := [.string (bs (p_aT.Name)), .slice A49 p_aT.Cols.length c49, .slice A50 p_aT.Idxs.length c50]) Try.ty35 rfl rfl (hB63.cells (n := 3) rfl) rfl (sd rfl (yl_move rfl rfl (sd rfl (yl_move rfl rfl ?_)))))))))
    have q67 := OwnL.only good_Str (OwnL.ex good_Str h49 hE61) hO64 (by omega)
    have q70 := OwnL.only good_Idx (OwnL.ex good_Idx h50 hE61) hO64 (by omega)
    refine sd rfl (yl_call Try.en60 rfl (opvs_cons rfl (opvs_cons rfl (opvs_cons rfl opvs_nil))) (Cal.mono (c_i_ReadIdxKey p_aT p_aName p_aKey (RdS.up (OwnL.rd good_Str q67) good_Str) (RdS.up (OwnL.rd good_Idx q70) good_Idx) ((szok_Table pre0 (by decide) (dec_f hb20)).1) (by unfold okS; omega) (by unfold okS; omega)) ?_))
    rintro v74 w71 ⟨rfl, ho72, ho73, hE75⟩
    have hE75z := Ex.size hE75
    refine sd rfl (yl_move rfl rfl (sd rfl (yl_extract rfl rfl rfl (sd rfl (yl_extract rfl rfl rfl (sd rfl (yl_extract rfl rfl rfl (sd rfl (yl_assign rfl rfl (sd rfl (yl_assign rfl rfl (sd rfl (yl_assign rfl rfl (SeqR.done (tn ?_)))))))))))))))
    refine CW.seq (CW.seq (CW.region (sd rfl (yl_move rfl rfl (sd rfl (yl_move rfl rfl (sd rfl (yl_sneq (a := ((i_ReadIdxKey p_aT p_aName p_aKey).1)) (b := ((s_ReadIdxKey p_aT p_aName p_aKey).1)) rfl rfl rfl (sd rfl (yl_move rfl rfl (bcase (((i_ReadIdxKey p_aT p_aName p_aKey).1) == ((s_ReadIdxKey p_aT p_aName p_aKey).1)) (fun hb76 => ?_) (fun hb76 => ?_))))))))))))
    ·refine sy rfl rfl (not_t hb76) (yl_move rfl rfl (sy rfl rfl (not_t hb76) (yl_move rfl rfl (sy rfl rfl (not_t hb76) (yl_sneq (a := ((i_ReadIdxKey p_aT p_aName p_aKey).2.1)) (b := ((s_ReadIdxKey p_aT p_aName p_aKey).2.1)) rfl rfl rfl (sd rfl (yl_pick_f rfl rfl (not_t hb76) rfl (sd rfl (yl_move rfl rfl (bcase (((i_ReadIdxKey p_aT p_aName p_aKey).2.1) == ((s_ReadIdxKey p_aT p_aName p_aKey).2.1)) (fun hb77 => ?_) (fun hb77 => ?_)))))))))))
     ·refine sy rfl rfl (not_t hb77) (yl_move rfl rfl (sy rfl rfl (not_t hb77) (yl_move rfl rfl (sy rfl rfl (not_t hb77) (yl_bneq Try.un4 rfl rfl rfl (sd rfl (yl_pick_f rfl rfl (not_t hb77) rfl (SeqR.done (tn (bcase (((i_ReadIdxKey p_aT p_aName p_aKey).2.2) == ((s_ReadIdxKey p_aT p_aName p_aKey).2.2)) (fun hb78 => ?_) (fun hb78 => ?_)))))))))))
      ·refine CW.cond_f rfl (not_t hb78) (CW.skip (tn (CW.seq (CW.seq (CW.drawsI 5 (vgetI [DetI (.agg #[.string (bs (p_aT.Name)), .slice A49 p_aT.Cols.length c49, .slice A50 p_aT.Idxs.length c50]), DetI (.agg #[.string (bs (p_aT.Name)), .slice A1 p_aT.Cols.length c1, .slice A2 p_aT.Idxs.length c2]), fun lo hi v wq => ∃ A93 c93 lo93 hi93 A94 c94 lo94 hi94, v = .agg #[.string (bs (p_aT.Name)), .slice A93 p_aT.Cols.length c93, .slice A94 p_aT.Idxs.length c94] ∧ OwnL wq lo93 hi93 9 1 (RF e_Str) A93 p_aT.Cols.length c93 p_aT.Cols ∧ OwnL wq lo94 hi94 132 3 (RF e_Idx) A94 p_aT.Idxs.length c94 p_aT.Idxs ∧ (lo ≤ lo93 ∧ lo93 ≤ hi93 ∧ hi93 ≤ hi) ∧ (lo ≤ lo94 ∧ lo94 ≤ hi94 ∧ hi94 ≤ hi) ∧ (hi93 ≤ lo94 ∨ hi94 ≤ lo93), DetI (.bool ((l_eqTable p_aT p_aT))), DetI (.bool (!(l_eqTable p_aT p_aT)))]) Try.follows rfl rfl rfl rfl rfl rfl (vgetI_stable ⟨StableI.det _, StableI.det _, (fun _ _ _ _ _ ⟨A93, c93, lo93, hi93, A94, c94, lo94, hi94, hv, h93, h94, hr0, hr1, hr2⟩ e => ⟨A93, c93, lo93, hi93, A94, c94, lo94, hi94, hv, OwnL.ex good_Str h93 e, OwnL.ex good_Idx h94 e, hr0, hr1, hr2⟩), StableI.det _, StableI.det _, trivial⟩) ⟨?_, ?_, ?_, ?_, ?_, trivial⟩ ?_)))))
       ·exact fun _ _ h => os rfl ((yl_loadN (cs := [.string (bs (p_aT.Name)), .slice A49 p_aT.Cols.length c49, .slice A50 p_aT.Idxs.length c50]) Try.ty35 rfl (h.old 11 _ rfl rfl) ((Box.ex (Box.ex hB63 hE75) h.ex).cells (n := 3) rfl) rfl kI))
       ·intro L106 w107 hi108
        have hE109 := hi108.ex
        have hE109z := Ex.size hE109
        exact os rfl ((yl_loadN (cs := [.string (bs (p_aT.Name)), .slice A1 p_aT.Cols.length c1, .slice A2 p_aT.Idxs.length c2]) Try.ty25 rfl (hi108.old 3 _ rfl rfl) ((Box.ex (Box.ex (Box.only (Box.ex (Box.ex q43 hE52) hE61) hO64 (by omega)) hE75) hE109).cells (n := 3) rfl) rfl kI))
       ·intro L112 w113 hi114
        have hE115 := hi114.ex
        have hE115z := Ex.size hE115
        refine OpR.op' rfl (yl_call Try.en17 rfl (opvs_cons (hi114.dt 1 59 rfl rfl rfl) opvs_nil) (Cal.mono (c_l_toTable p_aT (RdS.up (RdS.ex good_Str (RdS.ex good_Str (RdS.only good_Str (RdS.ex good_Str (RdS.ex good_Str q45 hE52) hE61) hO64 (by simp only [Iv]; omega)) hE75) hE115) good_Str) (RdS.up (RdS.ex good_Idx (RdS.ex good_Idx (RdS.only good_Idx (RdS.ex good_Idx (RdS.ex good_Idx q47 hE52) hE61) hO64 (by simp only [Iv]; omega)) hE75) hE115) good_Idx) ((szok_Table pre0 (by decide) (dec_f hb20)).1)) ?_))
        rintro v122 w119 ⟨A120, c120, lo120, hi120, A121, c121, lo121, hi121, rfl, h120, h121, hrn124, hrn125, hrn126, hE123⟩
        exact ⟨⟨A120, c120, lo120, hi120, A121, c121, lo121, hi121, rfl, h120, h121, hrn124, hrn125, hrn126⟩, hE123⟩
       ·intro L127 w128 hi129
        have hE130 := hi129.ex
        obtain ⟨lo133, hh134, _, hx132, hr135, hr136, hr137, A93_138, c93_139, lo93_140, hi93_141, A94_142, c94_143, lo94_144, hi94_145, rfl, h146, h147, hrn148, hrn149, hrn150⟩ := hi129.dep 2 60 rfl rfl
        refine OpR.op' rfl (yl_call Try.en20 rfl (opvs_cons (hi129.dt 0 58 rfl rfl rfl) (opvs_cons hx132 opvs_nil)) (Cal.mono (c_l_eqTable p_aT p_aT (RdS.up (OwnL.rd good_Str (OwnL.ex good_Str (OwnL.ex good_Str q67 hE75) hE130)) good_Str) (RdS.up (OwnL.rd good_Idx (OwnL.ex good_Idx (OwnL.ex good_Idx q70 hE75) hE130)) good_Idx) (RdS.up (OwnL.rd good_Str h146) good_Str) (RdS.up (OwnL.rd good_Idx h147) good_Idx)) ?_))
        rintro v158 w157 ⟨rfl, hE159⟩
        exact ⟨rfl, hE159⟩
       ·exact fun _ _ h => os rfl ((yl_not rfl (h.dt 3 61 rfl rfl rfl) kI))
       ·intro fl168 fh169 L165 w166 hp167
        have hE170 := hp167.ex
        have hE170z := Ex.size hE170
        have hr172 := hp167.rng 2 rfl
        obtain ⟨_, hx171, A93_173, c93_174, lo93_175, hi93_176, A94_177, c94_178, lo94_179, hi94_180, rfl, h181, h182, hrn183, hrn184, hrn185⟩ := hp167.new 2 60 rfl rfl
        refine SeqR.done (tn (CW.sub (Sub.cons (d := 62) (hp167.nt 4 62 rfl rfl rfl) (Sub.nil _)) (bcase (l_eqTable p_aT p_aT) (fun hb187 => ?_) (fun hb187 => ?_))))
        ·refine CW.cond_f rfl (not_t hb187) (CW.skip (tn (CW.seq (CW.region (sd rfl (yl_assign rfl rfl (SeqR.done (tn (CW.ret ?_)))))))))
         refine rr rfl (.cons rfl .nil) ?_
         have hM188 : (l_FnExactReadIdxKey p_aT p_aName p_aKey) = (true) := by simp only [l_FnExactReadIdxKey, hb9, hb12, hb20, hb76, hb77, hb78, hb187, cond_true, cond_false, loopE_done, loopE_ret]
         rw [hM188]
         exact ⟨rfl, (Ex.trans (Ex.trans (Below.only (Ex.trans (Ex.trans (Ex.trans (Ex.trans (Ex.trans (Ex.trans (Ex.refl w) hE8) hE19) hE31) hE41) hE52) hE61) hO64 (by omega)) hE75) hE170)⟩
        ·refine CW.cond_t rfl (not_f hb187) (CW.seq (CW.region (sd rfl (yl_assign rfl rfl (SeqR.done (tn (CW.ret (tr (rr rfl (.cons rfl .nil) ?_)))))))))
         have hM198 : (l_FnExactReadIdxKey p_aT p_aName p_aKey) = (false) := by simp only [l_FnExactReadIdxKey, hb9, hb12, hb20, hb76, hb77, hb78, hb187, cond_true, cond_false, loopE_done, loopE_ret]
         rw [hM198]
         exact ⟨rfl, (Ex.trans (Ex.trans (Below.only (Ex.trans (Ex.trans (Ex.trans (Ex.trans (Ex.trans (Ex.trans (Ex.refl w) hE8) hE19) hE31) hE41) hE52) hE61) hO64 (by omega)) hE75) hE170)⟩
      ·refine CW.cond_t rfl (not_f hb78) (CW.seq (CW.region (sd rfl (yl_assign rfl rfl (SeqR.done (tn (CW.ret (tr (rr rfl (.cons rfl .nil) ?_)))))))))
       have hM208 : (l_FnExactReadIdxKey p_aT p_aName p_aKey) = (false) := by simp only [l_FnExactReadIdxKey, hb9, hb12, hb20, hb76, hb77, hb78, cond_true, cond_false, loopE_done, loopE_ret]
       rw [hM208]
       exact ⟨rfl, (Ex.trans (Below.only (Ex.trans (Ex.trans (Ex.trans (Ex.trans (Ex.trans (Ex.trans (Ex.refl w) hE8) hE19) hE31) hE41) hE52) hE61) hO64 (by omega)) hE75)⟩
     ·refine sz rfl rfl (not_f hb77) (sz rfl rfl (not_f hb77) (sz rfl rfl (not_f hb77) (sd rfl (yl_pick_t rfl rfl (not_f hb77) rfl (SeqR.done (tn (CW.cond_t rfl rfl (CW.seq (CW.region ?_)))))))))
      refine sd rfl (yl_assign rfl rfl (SeqR.done (tn (CW.ret (tr (rr rfl (.cons rfl .nil) ?_))))))
      have hM217 : (l_FnExactReadIdxKey p_aT p_aName p_aKey) = (false) := by simp only [l_FnExactReadIdxKey, hb9, hb12, hb20, hb76, hb77, cond_true, cond_false, loopE_done, loopE_ret]
      rw [hM217]
      exact ⟨rfl, (Ex.trans (Below.only (Ex.trans (Ex.trans (Ex.trans (Ex.trans (Ex.trans (Ex.trans (Ex.refl w) hE8) hE19) hE31) hE41) hE52) hE61) hO64 (by omega)) hE75)⟩
    ·refine sz rfl rfl (not_f hb76) (sz rfl rfl (not_f hb76) (sz rfl rfl (not_f hb76) (sd rfl (yl_pick_t rfl rfl (not_f hb76) rfl (sd rfl (yl_move rfl rfl (sz rfl rfl rfl (sz rfl rfl rfl (sz rfl rfl rfl (sd rfl (yl_pick_t rfl rfl rfl rfl ?_)))))))))))
     refine SeqR.done (tn (CW.cond_t rfl rfl (CW.seq (CW.region (sd rfl (yl_assign rfl rfl (SeqR.done (tn (CW.ret ?_)))))))))
     refine tr (rr rfl (.cons rfl .nil) ?_)
     have hM226 : (l_FnExactReadIdxKey p_aT p_aName p_aKey) = (false) := by simp only [l_FnExactReadIdxKey, hb9, hb12, hb20, hb76, cond_true, cond_false, loopE_done, loopE_ret]
     rw [hM226]
     exact ⟨rfl, (Ex.trans (Below.only (Ex.trans (Ex.trans (Ex.trans (Ex.trans (Ex.trans (Ex.trans (Ex.refl w) hE8) hE19) hE31) hE41) hE52) hE61) hO64 (by omega)) hE75)⟩
end Go.Proofs.Ytmlfbjlkccnpmaa
