/- Idx Key: what each call returns, part 3. -/
import Derived.Test.YtmlfbjlkccnpmaaIdxKeyC2
set_option linter.unusedVariables false
set_option linter.unusedSimpArgs false
namespace Go.Proofs.Ytmlfbjlkccnpmaa
open Go.RowKit Go.X
set_option maxRecDepth 100000 in
set_option maxHeartbeats 2000000 in
theorem c_i_GoodTable {A1 : Option Addr} {c1 : Nat} {A2 : Option Addr} {c2 : Nat} {w : World} (p_0 : DTable) (h1 : RdS w (Iv 0 w.heap.size) (RF e_Str) 1 A1 p_0.Cols.length c1 p_0.Cols) (h2 : RdS w (Iv 0 w.heap.size) (RF e_Idx) 3 A2 p_0.Idxs.length c2 p_0.Idxs) (o3 : ok_Table p_0) : Cal Try.prog 72 #[.agg #[.string (bs (p_0.Name)), .slice A1 p_0.Cols.length c1, .slice A2 p_0.Idxs.length c2]] w fun v w' => v = .bool ((i_GoodTable p_0)) ∧ Ex w w' := by
  have hol4 : p_0.Name.length ≤ 1073741824 := o3.1
  have hol5 := o3.2.1.1
  have hol6 := o3.2.2.1
  refine Cal.of (vs := [.agg #[.string (bs (p_0.Name)), .slice A1 p_0.Cols.length c1, .slice A2 p_0.Idxs.length c2]]) Try.func72 rfl Try.ntmps72 rfl ?_
  refine CW.seq ?_
  refine CW.region ?_
  refine SeqR.d1 rfl rfl rfl (yl_box (cs := [.string (bs (p_0.Name)), .slice A1 p_0.Cols.length c1, .slice A2 p_0.Idxs.length c2]) rfl rfl rfl ?_)
  intro b7 w8 hs9 hz10 hB11 hE12
  refine SeqR.d1 rfl rfl rfl (yl_assign rfl rfl ?_)
  refine SeqR.done ?_
  refine tn ?_
  refine CW.seq ?_
  refine CW.seq ?_
  refine CW.region ?_
  refine SeqR.d1 rfl rfl rfl (yl_fieldAddr Try.fd35_0 rfl rfl ?_)
  refine SeqR.d1 rfl rfl rfl (yl_load1 Try.ty9 rfl rfl ((hB11.cell 0).trans rfl) ?_)
  refine SeqR.d1 rfl rfl rfl (yl_call Try.en142 rfl (opvs_cons rfl (opvs_cons rfl opvs_nil)) (Cal.mono (c_i_areLetters p_0.Name 1 o3.1) ?_))
  rintro v14 w13 ⟨rfl, hE15⟩
  have hE15z := Ex.size hE15
  refine SeqR.d1 rfl rfl rfl (yl_not rfl rfl ?_)
  refine SeqR.d1 rfl rfl rfl (yl_move rfl rfl ?_)
  refine bcase (i_areLetters p_0.Name 1) (fun hb16 => ?_) (fun hb16 => ?_)
  · skip
    refine SeqR.y rfl rfl rfl rfl rfl (not_t hb16) (yl_fieldAddr Try.fd35_1 rfl rfl ?_)
    have q17 := Box.ex hB11 hE15
    refine SeqR.y rfl rfl rfl rfl rfl (not_t hb16) (yl_load1 Try.ty22 rfl rfl ((q17.cell 1).trans rfl) ?_)
    refine SeqR.y rfl rfl rfl rfl rfl (not_t hb16) (yl_len Try.un22 rfl rfl ?_)
    refine SeqR.y rfl rfl rfl rfl rfl (not_t hb16) (yl_call Try.en129 rfl (opvs_cons rfl (opvs_cons rfl (opvs_cons rfl opvs_nil))) (Cal.mono (c_i_within (p_0.Cols.length : Int) 2 4) ?_))
    rintro v19 w18 ⟨rfl, hE20⟩
    have hE20z := Ex.size hE20
    refine SeqR.y rfl rfl rfl rfl rfl (not_t hb16) (yl_not rfl rfl ?_)
    refine SeqR.d1 rfl rfl rfl (yl_pick_f rfl rfl (not_t hb16) rfl ?_)
    refine SeqR.d1 rfl rfl rfl (yl_move rfl rfl ?_)
    refine bcase (i_within (p_0.Cols.length : Int) 2 4) (fun hb21 => ?_) (fun hb21 => ?_)
    · have hb21p := f_within hb21
      refine SeqR.y rfl rfl rfl rfl rfl (not_t hb21) (yl_fieldAddr Try.fd35_2 rfl rfl ?_)
      have q22 := Box.ex q17 hE20
      refine SeqR.y rfl rfl rfl rfl rfl (not_t hb21) (yl_load1 Try.ty33 rfl rfl ((q22.cell 2).trans rfl) ?_)
      refine SeqR.y rfl rfl rfl rfl rfl (not_t hb21) (yl_len Try.un33 rfl rfl ?_)
      refine SeqR.y rfl rfl rfl rfl rfl (not_t hb21) (yl_gtr rfl rfl rfl ?_)
      refine SeqR.d1 rfl rfl rfl (yl_pick_f rfl rfl (not_t hb21) rfl ?_)
      refine SeqR.done ?_
      refine tn ?_
      refine bcase (decide (3 < (p_0.Idxs.length : Int))) (fun hb23 => ?_) (fun hb23 => ?_)
      · have hb23p := dec_t hb23
        refine CW.cond_t rfl hb23 ?_
        refine CW.seq ?_
        refine CW.region ?_
        refine SeqR.d1 rfl rfl rfl (yl_assign rfl rfl ?_)
        refine SeqR.done ?_
        refine tn ?_
        refine CW.ret ?_
        refine tr ?_
        refine rr rfl (.cons rfl .nil) ?_
        have hM24 : (i_GoodTable p_0) = (false) := by simp only [i_GoodTable, hb16, hb21, hb23, cond_true, cond_false, loopE_done, loopE_ret]
        rw [hM24]
        have q25 := Ex.trans (Ex.refl w) hE12
        have q26 := Ex.trans q25 hE15
        have q27 := Ex.trans q26 hE20
        exact ⟨rfl, q27⟩
      · have hb23p := dec_f hb23
        refine CW.cond_f rfl hb23 ?_
        refine CW.skip ?_
        refine tn ?_
        refine CW.seq ?_
        refine CW.seq ?_
        refine CW.region ?_
        refine SeqR.d1 rfl rfl rfl (yl_fieldAddr Try.fd35_1 rfl rfl ?_)
        refine SeqR.d1 rfl rfl rfl (yl_load1 Try.ty22 rfl rfl ((q22.cell 1).trans rfl) ?_)
        refine SeqR.d1 rfl rfl rfl (yl_len Try.un22 rfl rfl ?_)
        refine SeqR.d1 rfl rfl rfl (yl_move rfl rfl ?_)
        refine SeqR.done ?_
        refine tn ?_
        refine CW.block ?_
        have q32 := RdS.ex good_Str h1 hE12
        have q33 := RdS.ex good_Str q32 hE15
        have q34 := RdS.ex good_Str q33 hE20
        have q35 := RdS.ex good_Idx h2 hE12
        have q36 := RdS.ex good_Idx q35 hE15
        have q37 := RdS.ex good_Idx q36 hE20
        have q38 := Ex.trans (Ex.refl w) hE12
        have q39 := Ex.trans q38 hE15
        have q40 := Ex.trans q39 hE20
        refine CW.loop (fun m29 L30 w31 => ∃ (k28 : Nat), m29 = p_0.Cols.length - k28 ∧ k28 ≤ p_0.Cols.length ∧ w18.heap.size ≤ w31.heap.size ∧ lkp L30 1 = some (.pointer (some ⟨b7, 0, none⟩)) ∧ lkp L30 25 = some (.slice A1 p_0.Cols.length c1) ∧ lkp L30 26 = some (.int .i64 ((p_0.Cols.length : Int))) ∧ lkp L30 27 = some (.int .i64 ((k28 : Int))) ∧ Box w31 b7 35 [.string (bs (p_0.Name)), .slice A1 p_0.Cols.length c1, .slice A2 p_0.Idxs.length c2] ∧ RdS w31 (Iv 0 w.heap.size) (RF e_Str) 1 A1 p_0.Cols.length c1 p_0.Cols ∧ RdS w31 (Iv 0 w.heap.size) (RF e_Idx) 3 A2 p_0.Idxs.length c2 p_0.Idxs ∧ Ex w w31 ∧ loopM (B_i_GoodTable_0 p_0) (p_0.Cols.length - k28) k28 () = loopM (B_i_GoodTable_0 p_0) (p_0.Cols.length - 0) 0 ()) (p_0.Cols.length - 0) ?_ ?_
        · exact ⟨0, rfl, (by omega), Nat.le_refl _, rfl, rfl, rfl, rfl, q22, q34, q37, q40, rfl⟩
        · rintro m41 L42 w43 ⟨k28, rfl, hk44, hsz46, hl47, hl48, hl49, hl50, hf51, hf52, hf53, hf54, hI45⟩
          refine CW.sub (Sub.cons hl47 (Sub.cons hl48 (Sub.cons hl49 (Sub.cons hl50 (Sub.nil _))))) ?_
          have hf51z := Box.lt hf51
          have hf54z := Ex.size hf54
          have hbg55 := RdS.big hf52
          rcases Nat.lt_or_ge k28 p_0.Cols.length with hlt56 | hlt56
          · skip
            refine CW.seq ?_
            refine CW.region ?_
            refine SeqR.d1 rfl rfl rfl (yl_lss rfl rfl rfl ?_)
            refine SeqR.done ?_
            refine tn ?_
            refine CW.seq ?_
            refine CW.cond_t rfl (lt_t hlt56) ?_
            refine CW.skip ?_
            refine tn ?_
            refine CW.seq ?_
            refine CW.block ?_
            refine CW.seq ?_
            refine CW.region ?_
            refine SeqR.d1 rfl rfl rfl (yl_move rfl rfl ?_)
            obtain ⟨eb57, eo57, ec57, eA57, eS57, ebl57, el57, eR57, eC57⟩ := RdS.atD hf52 d_Str (i := k28) (by first | omega | assumption)
            obtain rfl := eR57
            have eC57 : Cells w43 eb57 (eo57 + k28 * 1) [.string (bs ((p_0.Cols.getD k28 d_Str)))] := eC57
            refine SeqR.d1 rfl rfl rfl (yl_indexAddrN Try.un22 Try.ty9 rfl rfl rfl eA57 (by first | omega | assumption | (simp only [IntKind.wrap_i64] at *; omega)) ?_)
            refine SeqR.d1 rfl rfl rfl (yl_load1 Try.ty9 rfl rfl (eC57 0 _ rfl) ?_)
            refine SeqR.d1 rfl rfl rfl (yl_assign rfl rfl ?_)
            refine SeqR.d1 rfl rfl rfl (yl_assign rfl rfl ?_)
            refine SeqR.done ?_
            refine tn ?_
            refine CW.seq ?_
            refine CW.region ?_
            refine SeqR.d1 rfl rfl rfl (yl_move rfl rfl ?_)
            refine SeqR.d1 rfl rfl rfl (yl_call Try.en142 rfl (opvs_cons rfl (opvs_cons rfl opvs_nil)) (Cal.mono (c_i_areLetters (p_0.Cols.getD k28 d_Str) 3 (okL.getD o3.2.1 ok_d_Str _)) ?_))
            rintro v59 w58 ⟨rfl, hE60⟩
            have hE60z := Ex.size hE60
            refine SeqR.d1 rfl rfl rfl (yl_not rfl rfl ?_)
            refine SeqR.d1 rfl rfl rfl (yl_move rfl rfl ?_)
            refine bcase (i_areLetters (p_0.Cols.getD k28 d_Str) 3) (fun hb61 => ?_) (fun hb61 => ?_)
            · skip
              refine SeqR.y rfl rfl rfl rfl rfl (not_t hb61) (yl_fieldAddr Try.fd35_1 rfl rfl ?_)
              have q62 := Box.ex hf51 hE60
              refine SeqR.y rfl rfl rfl rfl rfl (not_t hb61) (yl_load1 Try.ty22 rfl rfl ((q62.cell 1).trans rfl) ?_)
              refine SeqR.y rfl rfl rfl rfl rfl (not_t hb61) (yl_move rfl rfl ?_)
              have q63 := RdS.ex good_Str hf52 hE60
              obtain ⟨A64, c65, he68, h67⟩ := RdS.sl (RdS.drop (RdS.take q63 (k := k28) (by omega)) (k := 0) (by omega))
              have hrc69 := (q63).2.1
              refine SeqR.y rfl rfl rfl rfl rfl (not_t hb61) (yl_sliceR (kl := .i64) (l := 0) (h := k28) Try.un22 Try.ty9 rfl rfl (.inl ⟨rfl, rfl⟩) (.inr ⟨_, rfl, rfl⟩) (by omega) (by omega) he68 ?_)
              refine SeqR.y rfl rfl rfl rfl rfl (not_t hb61) (yl_move rfl rfl ?_)
              refine SeqR.y rfl rfl rfl rfl rfl (not_t hb61) (yl_call Try.en143 rfl (opvs_cons rfl (opvs_cons rfl opvs_nil)) (Cal.mono (c_g_slices_Contains_string (p_0.Cols.take k28) (p_0.Cols.getD k28 d_Str) (RdS.up h67 good_Str) (okL.take o3.2.1 _) (okL.getD o3.2.1 ok_d_Str _)) ?_))
              rintro v71 w70 ⟨rfl, hE72⟩
              have hE72z := Ex.size hE72
              refine SeqR.d1 rfl rfl rfl (yl_pick_f rfl rfl (not_t hb61) rfl ?_)
              refine SeqR.done ?_
              refine tn ?_
              refine bcase (g_slices_Contains_string (p_0.Cols.take k28) (p_0.Cols.getD k28 d_Str)) (fun hb73 => ?_) (fun hb73 => ?_)
              · skip
                refine CW.cond_t rfl hb73 ?_
                refine CW.seq ?_
                refine CW.region ?_
                refine SeqR.d1 rfl rfl rfl (yl_assign rfl rfl ?_)
                refine SeqR.done ?_
                refine tn ?_
                refine CW.ret ?_
                refine br ?_
                refine tr ?_
                refine tr ?_
                have hB75 : B_i_GoodTable_0 p_0 k28 () = .ret false := by simp only [B_i_GoodTable_0, hb16, hb21, hb23, hb61, hb73, cond_true, cond_false, loopE_done, loopE_ret]
                have hL74 : loopM (B_i_GoodTable_0 p_0) (p_0.Cols.length - 0) 0 () = .ret false := hI45.symm.trans (loopM.ret hlt56 hB75)
                refine br ?_
                refine tr ?_
                refine rr rfl (.cons rfl .nil) ?_
                have hM76 : (i_GoodTable p_0) = (false) := by simp only [i_GoodTable, hb16, hb21, hb23, hb61, hb73, hL74, cond_true, cond_false, loopE_done, loopE_ret]
                rw [hM76]
                have q77 := Ex.trans hf54 hE60
                have q78 := Ex.trans q77 hE72
                exact ⟨rfl, q78⟩
              · skip
                refine CW.cond_f rfl hb73 ?_
                refine CW.skip ?_
                refine bn ?_
                refine tn ?_
                refine CW.region ?_
                refine SeqR.d1 rfl rfl rfl (yl_inc rfl rfl rfl (by omega) ?_)
                refine SeqR.d1 rfl rfl rfl (yl_move rfl rfl ?_)
                refine SeqR.done ?_
                refine tn ?_
                have hB79 : B_i_GoodTable_0 p_0 k28 () = .cont () := by simp only [B_i_GoodTable_0, hb16, hb21, hb23, hb61, hb73, cond_true, cond_false, loopE_done, loopE_ret]
                have q80 := Box.ex q62 hE72
                have q81 := RdS.ex good_Str q63 hE72
                have q82 := RdS.ex good_Idx hf53 hE60
                have q83 := RdS.ex good_Idx q82 hE72
                have q84 := Ex.trans hf54 hE60
                have q85 := Ex.trans q84 hE72
                exact ⟨p_0.Cols.length - (k28 + 1), by omega, k28 + 1, rfl, hlt56, (by omega), rfl, rfl, rfl, rfl, q80, q81, q83, q85, (loopM.cont hlt56 hB79).symm.trans hI45⟩
            · skip
              refine SeqR.z rfl rfl rfl rfl rfl (not_f hb61) ?_
              refine SeqR.z rfl rfl rfl rfl rfl (not_f hb61) ?_
              refine SeqR.z rfl rfl rfl rfl rfl (not_f hb61) ?_
              refine SeqR.z rfl rfl rfl rfl rfl (not_f hb61) ?_
              refine SeqR.z rfl rfl rfl rfl rfl (not_f hb61) ?_
              refine SeqR.z rfl rfl rfl rfl rfl (not_f hb61) ?_
              refine SeqR.d1 rfl rfl rfl (yl_pick_t rfl rfl (not_f hb61) rfl ?_)
              refine SeqR.done ?_
              refine tn ?_
              refine CW.cond_t rfl rfl ?_
              refine CW.seq ?_
              refine CW.region ?_
              refine SeqR.d1 rfl rfl rfl (yl_assign rfl rfl ?_)
              refine SeqR.done ?_
              refine tn ?_
              refine CW.ret ?_
              refine br ?_
              refine tr ?_
              refine tr ?_
              have hB87 : B_i_GoodTable_0 p_0 k28 () = .ret false := by simp only [B_i_GoodTable_0, hb16, hb21, hb23, hb61, cond_true, cond_false, loopE_done, loopE_ret]
              have hL86 : loopM (B_i_GoodTable_0 p_0) (p_0.Cols.length - 0) 0 () = .ret false := hI45.symm.trans (loopM.ret hlt56 hB87)
              refine br ?_
              refine tr ?_
              refine rr rfl (.cons rfl .nil) ?_
              have hM88 : (i_GoodTable p_0) = (false) := by simp only [i_GoodTable, hb16, hb21, hb23, hb61, hL86, cond_true, cond_false, loopE_done, loopE_ret]
              rw [hM88]
              have q89 := Ex.trans hf54 hE60
              exact ⟨rfl, q89⟩
          · skip
            refine CW.seq ?_
            refine CW.region ?_
            refine SeqR.d1 rfl rfl rfl (yl_lss rfl rfl rfl ?_)
            refine SeqR.done ?_
            refine tn ?_
            refine CW.seq ?_
            refine CW.cond_f rfl (lt_f hlt56) ?_
            refine CW.exit ?_
            refine tx ?_
            refine tx ?_
            have hL90 : loopM (B_i_GoodTable_0 p_0) (p_0.Cols.length - 0) 0 () = .done () := hI45.symm.trans (loopM.stop hlt56)
            refine bx ?_
            refine tn ?_
            refine CW.seq ?_
            refine CW.seq ?_
            refine CW.region ?_
            refine SeqR.d1 rfl rfl rfl (yl_fieldAddr Try.fd35_2 rfl rfl ?_)
            refine SeqR.d1 rfl rfl rfl (yl_load1 Try.ty33 rfl rfl ((hf51.cell 2).trans rfl) ?_)
            refine SeqR.d1 rfl rfl rfl (yl_len Try.un33 rfl rfl ?_)
            refine SeqR.d1 rfl rfl rfl (yl_move rfl rfl ?_)
            refine SeqR.done ?_
            refine tn ?_
            refine CW.block ?_
            refine CW.loop (fun m129 L130 w131 => ∃ (k91 : Nat), m129 = p_0.Idxs.length - k91 ∧ k91 ≤ p_0.Idxs.length ∧ w43.heap.size ≤ w131.heap.size ∧ lkp L130 1 = some (.pointer (some ⟨b7, 0, none⟩)) ∧ lkp L130 45 = some (.slice A2 p_0.Idxs.length c2) ∧ lkp L130 46 = some (.int .i64 ((p_0.Idxs.length : Int))) ∧ lkp L130 47 = some (.int .i64 ((k91 : Int))) ∧ Box w131 b7 35 [.string (bs (p_0.Name)), .slice A1 p_0.Cols.length c1, .slice A2 p_0.Idxs.length c2] ∧ RdS w131 (Iv 0 w.heap.size) (RF e_Str) 1 A1 p_0.Cols.length c1 p_0.Cols ∧ RdS w131 (Iv 0 w.heap.size) (RF e_Idx) 3 A2 p_0.Idxs.length c2 p_0.Idxs ∧ Ex w w131 ∧ loopM (B_i_GoodTable_1 p_0) (p_0.Idxs.length - k91) k91 () = loopM (B_i_GoodTable_1 p_0) (p_0.Idxs.length - 0) 0 ()) (p_0.Idxs.length - 0) ?_ ?_
            · exact ⟨0, rfl, (by omega), Nat.le_refl _, rfl, rfl, rfl, rfl, hf51, hf52, hf53, hf54, rfl⟩
            · rintro m132 L133 w134 ⟨k91, rfl, hk135, hsz137, hl138, hl139, hl140, hl141, hf142, hf143, hf144, hf145, hI136⟩
              refine CW.sub (Sub.cons hl138 (Sub.cons hl139 (Sub.cons hl140 (Sub.cons hl141 (Sub.nil _))))) ?_
              have hf142z := Box.lt hf142
              have hf145z := Ex.size hf145
              have hbg146 := RdS.big hf144
              rcases Nat.lt_or_ge k91 p_0.Idxs.length with hlt147 | hlt147
              · skip
                refine CW.seq ?_
                refine CW.region ?_
                refine SeqR.d1 rfl rfl rfl (yl_lss rfl rfl rfl ?_)
                refine SeqR.done ?_
                refine tn ?_
                refine CW.seq ?_
                refine CW.cond_t rfl (lt_t hlt147) ?_
                refine CW.skip ?_
                refine tn ?_
                refine CW.seq ?_
                refine CW.block ?_
                refine CW.seq ?_
                refine CW.region ?_
                refine SeqR.d1 rfl rfl rfl (yl_move rfl rfl ?_)
                obtain ⟨eb148, eo148, ec148, eA148, eS148, ebl148, el148, eR148, eC148⟩ := RdS.atD hf144 d_Idx (i := k91) (by first | omega | assumption)
                obtain rfl := eR148
                have eC148 : Cells w134 eb148 (eo148 + k91 * 3) [.string (bs ((p_0.Idxs.getD k91 d_Idx).Name)), .int .i64 ((p_0.Idxs.getD k91 d_Idx).Col), .int .i64 ((p_0.Idxs.getD k91 d_Idx).Stage)] := eC148
                refine SeqR.d1 rfl rfl rfl (yl_indexAddrN Try.un33 Try.ty132 rfl rfl rfl eA148 (by first | omega | assumption | (simp only [IntKind.wrap_i64] at *; omega)) ?_)
                refine SeqR.d1 rfl rfl rfl (yl_loadN (cs := [.string (bs ((p_0.Idxs.getD k91 d_Idx).Name)), .int .i64 ((p_0.Idxs.getD k91 d_Idx).Col), .int .i64 ((p_0.Idxs.getD k91 d_Idx).Stage)]) Try.ty132 rfl rfl eC148 rfl ?_)
                refine SeqR.d1 rfl rfl rfl (yl_alloc Try.ty132 (cs := [.string (bs (([] : Str))), .int .i64 (0), .int .i64 (0)]) rfl rfl ?_)
                intro b149 w150 hs151 hz152 hB153 hE154
                refine SeqR.d1 rfl rfl rfl (yl_assign rfl rfl ?_)
                refine SeqR.u rfl rfl (yl_store (vs := [.string (bs ((p_0.Idxs.getD k91 d_Idx).Name)), .int .i64 ((p_0.Idxs.getD k91 d_Idx).Col), .int .i64 ((p_0.Idxs.getD k91 d_Idx).Stage)]) Try.ty132 rfl rfl rfl rfl rfl rfl hB153 (Nat.le_of_ble_eq_true rfl) ?_)
                intro w155 hB156 hO157
                have hB156 : Box w155 b149 132 [.string (bs ((p_0.Idxs.getD k91 d_Idx).Name)), .int .i64 ((p_0.Idxs.getD k91 d_Idx).Col), .int .i64 ((p_0.Idxs.getD k91 d_Idx).Stage)] := hB156
                have hO157z := hO157.size
                refine SeqR.done ?_
                refine tn ?_
                refine CW.seq ?_
                refine bcase (i_areLetters ((p_0.Idxs.getD k91 d_Idx).Name) 1) (fun hb159 => ?_) (fun hb159 => ?_)
                · skip
                  have q161 := Box.ex hf142 hE154
                  have q162 := Box.only q161 hO157 (by omega)
                  refine bcase (i_within ((p_0.Idxs.getD k91 d_Idx).Col) 1 (IntKind.wrap .i64 ((p_0.Cols.length : Int) - 1))) (fun hb164 => ?_) (fun hb164 => ?_)
                  · have hb164p := f_within hb164
                    have q166 := Box.ex hf142 hE154
                    have q167 := Box.only q166 hO157 (by omega)
                    refine bcase (i_isStage ((p_0.Idxs.getD k91 d_Idx).Stage)) (fun hb170 => ?_) (fun hb170 => ?_)
                    · skip
                      have q172 := Box.ex hf142 hE154
                      have q173 := Box.only q172 hO157 (by omega)
                      refine bcase (decide (0 < (k91 : Int))) (fun hb176 => ?_) (fun hb176 => ?_)
                      · have hb176p := dec_t hb176
                        have q178 := Box.ex hf142 hE154
                        have q179 := Box.only q178 hO157 (by omega)
                        have q182 := RdS.ex good_Idx hf144 hE154
                        have q183 := RdS.only good_Idx q182 hO157 (by simp only [Iv]; omega)
                        obtain ⟨eb184, eo184, ec184, eA184, eS184, ebl184, el184, eR184, eC184⟩ := RdS.atD q183 d_Idx (i := (IntKind.wrap .i64 ((k91 : Int) - 1)).toNat) (by first | omega | assumption | (simp only [IntKind.wrap_i64] at *; omega))
                        obtain rfl := eR184
                        have eC184 : Cells w155 eb184 (eo184 + ((IntKind.wrap .i64 ((k91 : Int) - 1)).toNat) * 3) [.string (bs ((p_0.Idxs.getD ((IntKind.wrap .i64 ((k91 : Int) - 1)).toNat) d_Idx).Name)), .int .i64 ((p_0.Idxs.getD ((IntKind.wrap .i64 ((k91 : Int) - 1)).toNat) d_Idx).Col), .int .i64 ((p_0.Idxs.getD ((IntKind.wrap .i64 ((k91 : Int) - 1)).toNat) d_Idx).Stage)] := eC184
                        refine CW.drawsI 36 (vgetI [DetI (.pointer (some ⟨b149, 0 + 0, none⟩)), DetI (.string (bs ((p_0.Idxs.getD k91 d_Idx).Name))), DetI (.bool ((i_areLetters ((p_0.Idxs.getD k91 d_Idx).Name) 1))), DetI (.bool (!(i_areLetters ((p_0.Idxs.getD k91 d_Idx).Name) 1))), DetI (.bool (!(i_areLetters ((p_0.Idxs.getD k91 d_Idx).Name) 1))), DetI (.pointer (some ⟨b149, 0 + 1, none⟩)), DetI (.int .i64 ((p_0.Idxs.getD k91 d_Idx).Col)), DetI (.pointer (some ⟨b7, 0 + 1, none⟩)), DetI (.slice A1 p_0.Cols.length c1), DetI (.int .i64 ((p_0.Cols.length : Int))), DetI (.int .i64 (IntKind.wrap .i64 ((p_0.Cols.length : Int) - 1))), DetI (.bool ((i_within ((p_0.Idxs.getD k91 d_Idx).Col) 1 (IntKind.wrap .i64 ((p_0.Cols.length : Int) - 1))))), DetI (.bool (!(i_within ((p_0.Idxs.getD k91 d_Idx).Col) 1 (IntKind.wrap .i64 ((p_0.Cols.length : Int) - 1))))), DetI (.bool (!(i_within ((p_0.Idxs.getD k91 d_Idx).Col) 1 (IntKind.wrap .i64 ((p_0.Cols.length : Int) - 1))))), DetI (.bool (!(i_within ((p_0.Idxs.getD k91 d_Idx).Col) 1 (IntKind.wrap .i64 ((p_0.Cols.length : Int) - 1))))), DetI (.pointer (some ⟨b149, 0 + 2, none⟩)), DetI (.int .i64 ((p_0.Idxs.getD k91 d_Idx).Stage)), DetI (.bool ((i_isStage ((p_0.Idxs.getD k91 d_Idx).Stage)))), DetI (.bool (!(i_isStage ((p_0.Idxs.getD k91 d_Idx).Stage)))), DetI (.bool (!(i_isStage ((p_0.Idxs.getD k91 d_Idx).Stage)))), DetI (.bool (!(i_isStage ((p_0.Idxs.getD k91 d_Idx).Stage)))), DetI (.int .i64 ((k91 : Int))), DetI (.bool (decide (0 < (k91 : Int)))), DetI (.bool (decide (0 < (k91 : Int)))), DetI (.pointer (some ⟨b149, 0 + 0, none⟩)), DetI (.string (bs ((p_0.Idxs.getD k91 d_Idx).Name))), DetI (.pointer (some ⟨b7, 0 + 2, none⟩)), DetI (.slice A2 p_0.Idxs.length c2), DetI (.int .i64 ((k91 : Int))), DetI (.int .i64 (IntKind.wrap .i64 ((k91 : Int) - 1))), DetI (.pointer (some ⟨eb184, eo184 + ((IntKind.wrap .i64 ((k91 : Int) - 1)).toNat) * 3, none⟩)), DetI (.pointer (some ⟨eb184, eo184 + ((IntKind.wrap .i64 ((k91 : Int) - 1)).toNat) * 3 + 0, none⟩)), DetI (.string (bs ((p_0.Idxs.getD ((IntKind.wrap .i64 ((k91 : Int) - 1)).toNat) d_Idx).Name))), DetI (.bool (sLe ((p_0.Idxs.getD k91 d_Idx).Name) ((p_0.Idxs.getD ((IntKind.wrap .i64 ((k91 : Int) - 1)).toNat) d_Idx).Name))), DetI (.bool (sLe ((p_0.Idxs.getD k91 d_Idx).Name) ((p_0.Idxs.getD ((IntKind.wrap .i64 ((k91 : Int) - 1)).toNat) d_Idx).Name))), DetI (.bool (sLe ((p_0.Idxs.getD k91 d_Idx).Name) ((p_0.Idxs.getD ((IntKind.wrap .i64 ((k91 : Int) - 1)).toNat) d_Idx).Name)))]) Try.follows rfl rfl rfl rfl rfl rfl (vgetI_stable ⟨StableI.det _, StableI.det _, StableI.det _, StableI.det _, StableI.det _, StableI.det _, StableI.det _, StableI.det _, StableI.det _, StableI.det _, StableI.det _, StableI.det _, StableI.det _, StableI.det _, StableI.det _, StableI.det _, StableI.det _, StableI.det _, StableI.det _, StableI.det _, StableI.det _, StableI.det _, StableI.det _, StableI.det _, StableI.det _, StableI.det _, StableI.det _, StableI.det _, StableI.det _, StableI.det _, StableI.det _, StableI.det _, StableI.det _, StableI.det _, StableI.det _, StableI.det _, trivial⟩) ⟨?_, ?_, ?_, ?_, ?_, ?_, ?_, ?_, ?_, ?_, ?_, ?_, ?_, ?_, ?_, ?_, ?_, ?_, ?_, ?_, ?_, ?_, ?_, ?_, ?_, ?_, ?_, ?_, ?_, ?_, ?_, ?_, ?_, ?_, ?_, ?_, trivial⟩ ?_
                        · intro L185 w186 hi187
                          have hE188 := hi187.ex
                          have hE188z := Ex.size hE188
                          have hx189 := hi187.old 6 _ rfl rfl
                          exact OpR.op' rfl (Yl.sameI (yl_fieldAddr Try.fd132_0 rfl hx189 ⟨fun _ _ => rfl, rfl⟩))
                        · intro L190 w191 hi192
                          have hE193 := hi192.ex
                          have hE193z := Ex.size hE193
                          obtain ⟨_, _, _, hx194, -, -, -, rfl⟩ := hi192.dep 0 52 rfl rfl
                          have q195 := Box.ex hB156 hE193
                          exact OpR.op' rfl (Yl.sameI (yl_load1 Try.ty9 rfl hx194 ((q195.cell 0).trans rfl) ⟨fun _ _ => rfl, rfl⟩))
                        · intro L196 w197 hi198
                          have hE199 := hi198.ex
                          have hE199z := Ex.size hE199
                          obtain ⟨_, _, _, hx200, -, -, -, rfl⟩ := hi198.dep 1 53 rfl rfl
                          refine OpR.op' rfl (yl_call Try.en142 rfl (opvs_cons hx200 (opvs_cons rfl opvs_nil)) (Cal.mono (c_i_areLetters ((p_0.Idxs.getD k91 d_Idx).Name) 1 (okL.getD o3.2.2 ok_d_Idx _)) ?_))
                          rintro v202 w201 ⟨rfl, hE203⟩
                          exact ⟨rfl, hE203⟩
                        · intro L204 w205 hi206
                          have hE207 := hi206.ex
                          have hE207z := Ex.size hE207
                          obtain ⟨_, _, _, hx208, -, -, -, rfl⟩ := hi206.dep 2 54 rfl rfl
                          exact OpR.op' rfl (Yl.sameI (yl_not rfl hx208 ⟨fun _ _ => rfl, rfl⟩))
                        · intro L209 w210 hi211
                          have hE212 := hi211.ex
                          have hE212z := Ex.size hE212
                          obtain ⟨_, _, _, hx213, -, -, -, rfl⟩ := hi211.dep 3 55 rfl rfl
                          exact OpR.op' rfl (Yl.sameI (yl_move rfl hx213 ⟨fun _ _ => rfl, rfl⟩))
                        · intro L214 w215 hi216
                          have hE217 := hi216.ex
                          have hE217z := Ex.size hE217
                          obtain ⟨_, _, _, hx218, -, -, -, rfl⟩ := hi216.dep 4 56 rfl rfl
                          have hx219 := hi216.old 6 _ rfl rfl
                          exact OpR.want rfl rfl hx218 (not_t hb159) (Yl.sameI (yl_fieldAddr Try.fd132_1 rfl hx219 ⟨fun _ _ => rfl, rfl⟩))
                        · intro L220 w221 hi222
                          have hE223 := hi222.ex
                          have hE223z := Ex.size hE223
                          obtain ⟨_, _, _, hx224, -, -, -, rfl⟩ := hi222.dep 4 56 rfl rfl
                          obtain ⟨_, _, _, hx225, -, -, -, rfl⟩ := hi222.dep 5 57 rfl rfl
                          have q226 := Box.ex hB156 hE223
                          exact OpR.want rfl rfl hx224 (not_t hb159) (Yl.sameI (yl_load1 Try.ty3 rfl hx225 ((q226.cell 1).trans rfl) ⟨fun _ _ => rfl, rfl⟩))
                        · intro L227 w228 hi229
                          have hE230 := hi229.ex
                          have hE230z := Ex.size hE230
                          obtain ⟨_, _, _, hx231, -, -, -, rfl⟩ := hi229.dep 4 56 rfl rfl
                          have hx232 := hi229.old 1 _ rfl rfl
                          exact OpR.want rfl rfl hx231 (not_t hb159) (Yl.sameI (yl_fieldAddr Try.fd35_1 rfl hx232 ⟨fun _ _ => rfl, rfl⟩))
                        · intro L233 w234 hi235
                          have hE236 := hi235.ex
                          have hE236z := Ex.size hE236
                          obtain ⟨_, _, _, hx237, -, -, -, rfl⟩ := hi235.dep 4 56 rfl rfl
                          obtain ⟨_, _, _, hx238, -, -, -, rfl⟩ := hi235.dep 7 59 rfl rfl
                          have q239 := Box.ex q179 hE236
                          exact OpR.want rfl rfl hx237 (not_t hb159) (Yl.sameI (yl_load1 Try.ty22 rfl hx238 ((q239.cell 1).trans rfl) ⟨fun _ _ => rfl, rfl⟩))
                        · intro L240 w241 hi242
                          have hE243 := hi242.ex
                          have hE243z := Ex.size hE243
                          obtain ⟨_, _, _, hx244, -, -, -, rfl⟩ := hi242.dep 4 56 rfl rfl
                          obtain ⟨_, _, _, hx245, -, -, -, rfl⟩ := hi242.dep 8 60 rfl rfl
                          exact OpR.want rfl rfl hx244 (not_t hb159) (Yl.sameI (yl_len Try.un22 rfl hx245 ⟨fun _ _ => rfl, rfl⟩))
                        · intro L246 w247 hi248
                          have hE249 := hi248.ex
                          have hE249z := Ex.size hE249
                          obtain ⟨_, _, _, hx250, -, -, -, rfl⟩ := hi248.dep 4 56 rfl rfl
                          obtain ⟨_, _, _, hx251, -, -, -, rfl⟩ := hi248.dep 9 61 rfl rfl
                          exact OpR.want rfl rfl hx250 (not_t hb159) (Yl.sameI (yl_sub rfl hx251 rfl ⟨fun _ _ => rfl, rfl⟩))
                        · intro L252 w253 hi254
                          have hE255 := hi254.ex
                          have hE255z := Ex.size hE255
                          obtain ⟨_, _, _, hx256, -, -, -, rfl⟩ := hi254.dep 4 56 rfl rfl
                          obtain ⟨_, _, _, hx257, -, -, -, rfl⟩ := hi254.dep 6 58 rfl rfl
                          obtain ⟨_, _, _, hx258, -, -, -, rfl⟩ := hi254.dep 10 62 rfl rfl
                          refine OpR.want rfl rfl hx256 (not_t hb159) (yl_call Try.en129 rfl (opvs_cons hx257 (opvs_cons rfl (opvs_cons hx258 opvs_nil))) (Cal.mono (c_i_within ((p_0.Idxs.getD k91 d_Idx).Col) 1 (IntKind.wrap .i64 ((p_0.Cols.length : Int) - 1))) ?_))
                          rintro v260 w259 ⟨rfl, hE261⟩
                          exact ⟨rfl, hE261⟩
                        · intro L262 w263 hi264
                          have hE265 := hi264.ex
                          have hE265z := Ex.size hE265
                          obtain ⟨_, _, _, hx266, -, -, -, rfl⟩ := hi264.dep 4 56 rfl rfl
                          obtain ⟨_, _, _, hx267, -, -, -, rfl⟩ := hi264.dep 11 63 rfl rfl
                          exact OpR.want rfl rfl hx266 (not_t hb159) (Yl.sameI (yl_not rfl hx267 ⟨fun _ _ => rfl, rfl⟩))
                        · intro L268 w269 hi270
                          have hE271 := hi270.ex
                          have hE271z := Ex.size hE271
                          obtain ⟨_, _, _, hx272, -, -, -, rfl⟩ := hi270.dep 12 64 rfl rfl
                          obtain ⟨_, _, _, hx273, -, -, -, rfl⟩ := hi270.dep 4 56 rfl rfl
                          exact OpR.op' rfl (Yl.sameI (yl_pick_f rfl hx273 (not_t hb159) hx272 ⟨fun _ _ => rfl, rfl⟩))
                        · intro L274 w275 hi276
                          have hE277 := hi276.ex
                          have hE277z := Ex.size hE277
                          obtain ⟨_, _, _, hx278, -, -, -, rfl⟩ := hi276.dep 13 65 rfl rfl
                          exact OpR.op' rfl (Yl.sameI (yl_move rfl hx278 ⟨fun _ _ => rfl, rfl⟩))
                        · intro L279 w280 hi281
                          have hE282 := hi281.ex
                          have hE282z := Ex.size hE282
                          obtain ⟨_, _, _, hx283, -, -, -, rfl⟩ := hi281.dep 14 66 rfl rfl
                          have hx284 := hi281.old 6 _ rfl rfl
                          exact OpR.want rfl rfl hx283 (not_t hb164) (Yl.sameI (yl_fieldAddr Try.fd132_2 rfl hx284 ⟨fun _ _ => rfl, rfl⟩))
                        · intro L285 w286 hi287
                          have hE288 := hi287.ex
                          have hE288z := Ex.size hE288
                          obtain ⟨_, _, _, hx289, -, -, -, rfl⟩ := hi287.dep 14 66 rfl rfl
                          obtain ⟨_, _, _, hx290, -, -, -, rfl⟩ := hi287.dep 15 67 rfl rfl
                          have q291 := Box.ex hB156 hE288
                          exact OpR.want rfl rfl hx289 (not_t hb164) (Yl.sameI (yl_load1 Try.ty3 rfl hx290 ((q291.cell 2).trans rfl) ⟨fun _ _ => rfl, rfl⟩))
                        · intro L292 w293 hi294
                          have hE295 := hi294.ex
                          have hE295z := Ex.size hE295
                          obtain ⟨_, _, _, hx296, -, -, -, rfl⟩ := hi294.dep 14 66 rfl rfl
                          obtain ⟨_, _, _, hx297, -, -, -, rfl⟩ := hi294.dep 16 68 rfl rfl
                          refine OpR.want rfl rfl hx296 (not_t hb164) (yl_call Try.en108 rfl (opvs_cons hx297 opvs_nil) (Cal.mono (c_i_isStage ((p_0.Idxs.getD k91 d_Idx).Stage)) ?_))
                          rintro v299 w298 ⟨rfl, hE300⟩
                          exact ⟨rfl, hE300⟩
                        · intro L301 w302 hi303
                          have hE304 := hi303.ex
                          have hE304z := Ex.size hE304
                          obtain ⟨_, _, _, hx305, -, -, -, rfl⟩ := hi303.dep 14 66 rfl rfl
                          obtain ⟨_, _, _, hx306, -, -, -, rfl⟩ := hi303.dep 17 69 rfl rfl
                          exact OpR.want rfl rfl hx305 (not_t hb164) (Yl.sameI (yl_not rfl hx306 ⟨fun _ _ => rfl, rfl⟩))
                        · intro L307 w308 hi309
                          have hE310 := hi309.ex
                          have hE310z := Ex.size hE310
                          obtain ⟨_, _, _, hx311, -, -, -, rfl⟩ := hi309.dep 18 70 rfl rfl
                          obtain ⟨_, _, _, hx312, -, -, -, rfl⟩ := hi309.dep 14 66 rfl rfl
                          exact OpR.op' rfl (Yl.sameI (yl_pick_f rfl hx312 (not_t hb164) hx311 ⟨fun _ _ => rfl, rfl⟩))
                        · intro L313 w314 hi315
                          have hE316 := hi315.ex
                          have hE316z := Ex.size hE316
                          obtain ⟨_, _, _, hx317, -, -, -, rfl⟩ := hi315.dep 19 71 rfl rfl
                          exact OpR.op' rfl (Yl.sameI (yl_move rfl hx317 ⟨fun _ _ => rfl, rfl⟩))
                        · intro L318 w319 hi320
                          have hE321 := hi320.ex
                          have hE321z := Ex.size hE321
                          obtain ⟨_, _, _, hx322, -, -, -, rfl⟩ := hi320.dep 20 72 rfl rfl
                          have hx323 := hi320.old 5 _ rfl rfl
                          exact OpR.want rfl rfl hx322 (not_t hb170) (Yl.sameI (yl_move rfl hx323 ⟨fun _ _ => rfl, rfl⟩))
                        · intro L324 w325 hi326
                          have hE327 := hi326.ex
                          have hE327z := Ex.size hE327
                          obtain ⟨_, _, _, hx328, -, -, -, rfl⟩ := hi326.dep 20 72 rfl rfl
                          obtain ⟨_, _, _, hx329, -, -, -, rfl⟩ := hi326.dep 21 73 rfl rfl
                          exact OpR.want rfl rfl hx328 (not_t hb170) (Yl.sameI (yl_gtr rfl hx329 rfl ⟨fun _ _ => rfl, rfl⟩))
                        · intro L330 w331 hi332
                          have hE333 := hi332.ex
                          have hE333z := Ex.size hE333
                          obtain ⟨_, _, _, hx334, -, -, -, rfl⟩ := hi332.dep 20 72 rfl rfl
                          obtain ⟨_, _, _, hx335, -, -, -, rfl⟩ := hi332.dep 22 74 rfl rfl
                          exact OpR.want rfl rfl hx334 (not_t hb170) (Yl.sameI (yl_move rfl hx335 ⟨fun _ _ => rfl, rfl⟩))
                        · intro L336 w337 hi338
                          have hE339 := hi338.ex
                          have hE339z := Ex.size hE339
                          obtain ⟨_, _, _, hx340, -, -, -, rfl⟩ := hi338.dep 23 75 rfl rfl
                          have hx341 := hi338.old 6 _ rfl rfl
                          exact OpR.want rfl rfl hx340 hb176 (Yl.sameI (yl_fieldAddr Try.fd132_0 rfl hx341 ⟨fun _ _ => rfl, rfl⟩))
                        · intro L342 w343 hi344
                          have hE345 := hi344.ex
                          have hE345z := Ex.size hE345
                          obtain ⟨_, _, _, hx346, -, -, -, rfl⟩ := hi344.dep 23 75 rfl rfl
                          obtain ⟨_, _, _, hx347, -, -, -, rfl⟩ := hi344.dep 24 76 rfl rfl
                          have q348 := Box.ex hB156 hE345
                          exact OpR.want rfl rfl hx346 hb176 (Yl.sameI (yl_load1 Try.ty9 rfl hx347 ((q348.cell 0).trans rfl) ⟨fun _ _ => rfl, rfl⟩))
                        · intro L349 w350 hi351
                          have hE352 := hi351.ex
                          have hE352z := Ex.size hE352
                          obtain ⟨_, _, _, hx353, -, -, -, rfl⟩ := hi351.dep 23 75 rfl rfl
                          have hx354 := hi351.old 1 _ rfl rfl
                          exact OpR.want rfl rfl hx353 hb176 (Yl.sameI (yl_fieldAddr Try.fd35_2 rfl hx354 ⟨fun _ _ => rfl, rfl⟩))
                        · intro L355 w356 hi357
                          have hE358 := hi357.ex
                          have hE358z := Ex.size hE358
                          obtain ⟨_, _, _, hx359, -, -, -, rfl⟩ := hi357.dep 23 75 rfl rfl
                          obtain ⟨_, _, _, hx360, -, -, -, rfl⟩ := hi357.dep 26 78 rfl rfl
                          have q361 := Box.ex q179 hE358
                          exact OpR.want rfl rfl hx359 hb176 (Yl.sameI (yl_load1 Try.ty33 rfl hx360 ((q361.cell 2).trans rfl) ⟨fun _ _ => rfl, rfl⟩))
                        · intro L362 w363 hi364
                          have hE365 := hi364.ex
                          have hE365z := Ex.size hE365
                          obtain ⟨_, _, _, hx366, -, -, -, rfl⟩ := hi364.dep 23 75 rfl rfl
                          have hx367 := hi364.old 5 _ rfl rfl
                          exact OpR.want rfl rfl hx366 hb176 (Yl.sameI (yl_move rfl hx367 ⟨fun _ _ => rfl, rfl⟩))
                        · intro L368 w369 hi370
                          have hE371 := hi370.ex
                          have hE371z := Ex.size hE371
                          obtain ⟨_, _, _, hx372, -, -, -, rfl⟩ := hi370.dep 23 75 rfl rfl
                          obtain ⟨_, _, _, hx373, -, -, -, rfl⟩ := hi370.dep 28 80 rfl rfl
                          exact OpR.want rfl rfl hx372 hb176 (Yl.sameI (yl_sub rfl hx373 rfl ⟨fun _ _ => rfl, rfl⟩))
                        · intro L374 w375 hi376
                          have hE377 := hi376.ex
                          have hE377z := Ex.size hE377
                          obtain ⟨_, _, _, hx378, -, -, -, rfl⟩ := hi376.dep 23 75 rfl rfl
                          obtain ⟨_, _, _, hx379, -, -, -, rfl⟩ := hi376.dep 27 79 rfl rfl
                          obtain ⟨_, _, _, hx380, -, -, -, rfl⟩ := hi376.dep 29 81 rfl rfl
                          exact OpR.want rfl rfl hx378 hb176 (Yl.sameI (yl_indexAddr Try.un33 Try.ty132 rfl hx379 hx380 eA184 (by first | omega | assumption | (simp only [IntKind.wrap_i64] at *; omega)) (by first | omega | assumption | (simp only [IntKind.wrap_i64] at *; omega)) ⟨fun _ _ => rfl, rfl⟩))
                        · intro L381 w382 hi383
                          have hE384 := hi383.ex
                          have hE384z := Ex.size hE384
                          obtain ⟨_, _, _, hx385, -, -, -, rfl⟩ := hi383.dep 23 75 rfl rfl
                          obtain ⟨_, _, _, hx386, -, -, -, rfl⟩ := hi383.dep 30 82 rfl rfl
                          exact OpR.want rfl rfl hx385 hb176 (Yl.sameI (yl_fieldAddr Try.fd132_0 rfl hx386 ⟨fun _ _ => rfl, rfl⟩))
                        · intro L387 w388 hi389
                          have hE390 := hi389.ex
                          have hE390z := Ex.size hE390
                          obtain ⟨_, _, _, hx391, -, -, -, rfl⟩ := hi389.dep 23 75 rfl rfl
                          obtain ⟨_, _, _, hx392, -, -, -, rfl⟩ := hi389.dep 31 83 rfl rfl
                          have q393 := Cells.ex eC184 hE390
                          exact OpR.want rfl rfl hx391 hb176 (Yl.sameI (yl_load1 Try.ty9 rfl hx392 (q393 0 _ rfl) ⟨fun _ _ => rfl, rfl⟩))
                        · intro L394 w395 hi396
                          have hE397 := hi396.ex
                          have hE397z := Ex.size hE397
                          obtain ⟨_, _, _, hx398, -, -, -, rfl⟩ := hi396.dep 23 75 rfl rfl
                          obtain ⟨_, _, _, hx399, -, -, -, rfl⟩ := hi396.dep 25 77 rfl rfl
                          obtain ⟨_, _, _, hx400, -, -, -, rfl⟩ := hi396.dep 32 84 rfl rfl
                          exact OpR.want rfl rfl hx398 hb176 (Yl.sameI (yl_sleq (a := ((p_0.Idxs.getD k91 d_Idx).Name)) (b := ((p_0.Idxs.getD ((IntKind.wrap .i64 ((k91 : Int) - 1)).toNat) d_Idx).Name)) rfl hx399 hx400 ⟨fun _ _ => rfl, rfl⟩))
                        · intro L401 w402 hi403
                          have hE404 := hi403.ex
                          have hE404z := Ex.size hE404
                          obtain ⟨_, _, _, hx405, -, -, -, rfl⟩ := hi403.dep 20 72 rfl rfl
                          obtain ⟨_, _, _, hx406, -, -, -, rfl⟩ := hi403.dep 33 85 rfl rfl
                          obtain ⟨_, _, _, hx407, -, -, -, rfl⟩ := hi403.dep 23 75 rfl rfl
                          exact OpR.want rfl rfl hx405 (not_t hb170) (Yl.sameI (yl_pick_t rfl hx407 hb176 hx406 ⟨fun _ _ => rfl, rfl⟩))
                        · intro L408 w409 hi410
                          have hE411 := hi410.ex
                          have hE411z := Ex.size hE411
                          obtain ⟨_, _, _, hx412, -, -, -, rfl⟩ := hi410.dep 34 86 rfl rfl
                          obtain ⟨_, _, _, hx413, -, -, -, rfl⟩ := hi410.dep 20 72 rfl rfl
                          exact OpR.op' rfl (Yl.sameI (yl_pick_f rfl hx413 (not_t hb170) hx412 ⟨fun _ _ => rfl, rfl⟩))
                        · intro fl417 fh418 L414 w415 hp416
                          have hE419 := hp416.ex
                          have hE419z := Ex.size hE419
                          have hx420 := hp416.old 1 _ rfl rfl
                          have hx421 := hp416.old 45 _ rfl rfl
                          have hx422 := hp416.old 46 _ rfl rfl
                          have hx423 := hp416.old 47 _ rfl rfl
                          obtain ⟨_, hx424, rfl⟩ := hp416.new 5 57 rfl rfl
                          obtain ⟨_, hx425, rfl⟩ := hp416.new 6 58 rfl rfl
                          obtain ⟨_, hx426, rfl⟩ := hp416.new 7 59 rfl rfl
                          obtain ⟨_, hx427, rfl⟩ := hp416.new 8 60 rfl rfl
                          obtain ⟨_, hx428, rfl⟩ := hp416.new 9 61 rfl rfl
                          obtain ⟨_, hx429, rfl⟩ := hp416.new 10 62 rfl rfl
                          obtain ⟨_, hx430, rfl⟩ := hp416.new 11 63 rfl rfl
                          obtain ⟨_, hx431, rfl⟩ := hp416.new 12 64 rfl rfl
                          obtain ⟨_, hx432, rfl⟩ := hp416.new 15 67 rfl rfl
                          obtain ⟨_, hx433, rfl⟩ := hp416.new 16 68 rfl rfl
                          obtain ⟨_, hx434, rfl⟩ := hp416.new 17 69 rfl rfl
                          obtain ⟨_, hx435, rfl⟩ := hp416.new 18 70 rfl rfl
                          obtain ⟨_, hx436, rfl⟩ := hp416.new 21 73 rfl rfl
                          obtain ⟨_, hx437, rfl⟩ := hp416.new 22 74 rfl rfl
                          obtain ⟨_, hx438, rfl⟩ := hp416.new 23 75 rfl rfl
                          obtain ⟨_, hx439, rfl⟩ := hp416.new 24 76 rfl rfl
                          obtain ⟨_, hx440, rfl⟩ := hp416.new 25 77 rfl rfl
                          obtain ⟨_, hx441, rfl⟩ := hp416.new 26 78 rfl rfl
                          obtain ⟨_, hx442, rfl⟩ := hp416.new 27 79 rfl rfl
                          obtain ⟨_, hx443, rfl⟩ := hp416.new 28 80 rfl rfl
                          obtain ⟨_, hx444, rfl⟩ := hp416.new 29 81 rfl rfl
                          obtain ⟨_, hx445, rfl⟩ := hp416.new 30 82 rfl rfl
                          obtain ⟨_, hx446, rfl⟩ := hp416.new 31 83 rfl rfl
                          obtain ⟨_, hx447, rfl⟩ := hp416.new 32 84 rfl rfl
                          obtain ⟨_, hx448, rfl⟩ := hp416.new 33 85 rfl rfl
                          obtain ⟨_, hx449, rfl⟩ := hp416.new 34 86 rfl rfl
                          obtain ⟨_, hx450, rfl⟩ := hp416.new 35 87 rfl rfl
                          refine SeqR.done ?_
                          refine tn ?_
                          refine CW.sub (Sub.cons (d := 1) hx420 (Sub.cons (d := 45) hx421 (Sub.cons (d := 46) hx422 (Sub.cons (d := 47) hx423 (Sub.cons (d := 57) hx424 (Sub.cons (d := 58) hx425 (Sub.cons (d := 59) hx426 (Sub.cons (d := 60) hx427 (Sub.cons (d := 61) hx428 (Sub.cons (d := 62) hx429 (Sub.cons (d := 63) hx430 (Sub.cons (d := 64) hx431 (Sub.cons (d := 67) hx432 (Sub.cons (d := 68) hx433 (Sub.cons (d := 69) hx434 (Sub.cons (d := 70) hx435 (Sub.cons (d := 73) hx436 (Sub.cons (d := 74) hx437 (Sub.cons (d := 75) hx438 (Sub.cons (d := 76) hx439 (Sub.cons (d := 77) hx440 (Sub.cons (d := 78) hx441 (Sub.cons (d := 79) hx442 (Sub.cons (d := 80) hx443 (Sub.cons (d := 81) hx444 (Sub.cons (d := 82) hx445 (Sub.cons (d := 83) hx446 (Sub.cons (d := 84) hx447 (Sub.cons (d := 85) hx448 (Sub.cons (d := 86) hx449 (Sub.cons (d := 87) hx450 (Sub.nil _)))))))))))))))))))))))))))))))) ?_
                          refine bcase (sLe ((p_0.Idxs.getD k91 d_Idx).Name) ((p_0.Idxs.getD ((IntKind.wrap .i64 ((k91 : Int) - 1)).toNat) d_Idx).Name)) (fun hb451 => ?_) (fun hb451 => ?_)
                          · skip
                            refine CW.cond_t rfl hb451 ?_
                            refine CW.seq ?_
                            refine CW.region ?_
                            refine SeqR.d1 rfl rfl rfl (yl_assign rfl rfl ?_)
                            refine SeqR.done ?_
                            refine tn ?_
                            refine CW.ret ?_
                            refine br ?_
                            refine tr ?_
                            refine tr ?_
                            have hB453 : B_i_GoodTable_1 p_0 k91 () = .ret false := by simp only [B_i_GoodTable_1, hb16, hb21, hb23, hb159, hb164, hb170, hb176, hb451, hL90, cond_true, cond_false, loopE_done, loopE_ret]
                            have hL452 : loopM (B_i_GoodTable_1 p_0) (p_0.Idxs.length - 0) 0 () = .ret false := hI136.symm.trans (loopM.ret hlt147 hB453)
                            refine br ?_
                            refine tr ?_
                            refine rr rfl (.cons rfl .nil) ?_
                            have hM454 : (i_GoodTable p_0) = (false) := by simp only [i_GoodTable, hb16, hb21, hb23, hb159, hb164, hb170, hb176, hb451, hL90, hL452, cond_true, cond_false, loopE_done, loopE_ret]
                            rw [hM454]
                            have q455 := Ex.trans hf145 hE154
                            have q456 := Below.only q455 hO157 (by omega)
                            have q457 := Ex.trans q456 hE419
                            exact ⟨rfl, q457⟩
                          · skip
                            refine CW.cond_f rfl hb451 ?_
                            refine CW.skip ?_
                            refine bn ?_
                            refine tn ?_
                            refine CW.region ?_
                            refine SeqR.d1 rfl rfl rfl (yl_inc rfl rfl rfl (by omega) ?_)
                            refine SeqR.d1 rfl rfl rfl (yl_move rfl rfl ?_)
                            refine SeqR.done ?_
                            refine tn ?_
                            have hB458 : B_i_GoodTable_1 p_0 k91 () = .cont () := by simp only [B_i_GoodTable_1, hb16, hb21, hb23, hb159, hb164, hb170, hb176, hb451, hL90, cond_true, cond_false, loopE_done, loopE_ret]
                            have q459 := Box.ex q179 hE419
                            have q460 := RdS.ex good_Str hf143 hE154
                            have q461 := RdS.only good_Str q460 hO157 (by simp only [Iv]; omega)
                            have q462 := RdS.ex good_Str q461 hE419
                            have q463 := RdS.ex good_Idx q183 hE419
                            have q464 := Ex.trans hf145 hE154
                            have q465 := Below.only q464 hO157 (by omega)
                            have q466 := Ex.trans q465 hE419
                            exact ⟨p_0.Idxs.length - (k91 + 1), by omega, k91 + 1, rfl, hlt147, (by omega), rfl, rfl, rfl, rfl, q459, q462, q463, q466, (loopM.cont hlt147 hB458).symm.trans hI136⟩
                      · have hb176p := dec_f hb176
                        have q468 := Box.ex hf142 hE154
                        have q469 := Box.only q468 hO157 (by omega)
                        refine CW.drawsI 36 (vgetI [DetI (.pointer (some ⟨b149, 0 + 0, none⟩)), DetI (.string (bs ((p_0.Idxs.getD k91 d_Idx).Name))), DetI (.bool ((i_areLetters ((p_0.Idxs.getD k91 d_Idx).Name) 1))), DetI (.bool (!(i_areLetters ((p_0.Idxs.getD k91 d_Idx).Name) 1))), DetI (.bool (!(i_areLetters ((p_0.Idxs.getD k91 d_Idx).Name) 1))), DetI (.pointer (some ⟨b149, 0 + 1, none⟩)), DetI (.int .i64 ((p_0.Idxs.getD k91 d_Idx).Col)), DetI (.pointer (some ⟨b7, 0 + 1, none⟩)), DetI (.slice A1 p_0.Cols.length c1), DetI (.int .i64 ((p_0.Cols.length : Int))), DetI (.int .i64 (IntKind.wrap .i64 ((p_0.Cols.length : Int) - 1))), DetI (.bool ((i_within ((p_0.Idxs.getD k91 d_Idx).Col) 1 (IntKind.wrap .i64 ((p_0.Cols.length : Int) - 1))))), DetI (.bool (!(i_within ((p_0.Idxs.getD k91 d_Idx).Col) 1 (IntKind.wrap .i64 ((p_0.Cols.length : Int) - 1))))), DetI (.bool (!(i_within ((p_0.Idxs.getD k91 d_Idx).Col) 1 (IntKind.wrap .i64 ((p_0.Cols.length : Int) - 1))))), DetI (.bool (!(i_within ((p_0.Idxs.getD k91 d_Idx).Col) 1 (IntKind.wrap .i64 ((p_0.Cols.length : Int) - 1))))), DetI (.pointer (some ⟨b149, 0 + 2, none⟩)), DetI (.int .i64 ((p_0.Idxs.getD k91 d_Idx).Stage)), DetI (.bool ((i_isStage ((p_0.Idxs.getD k91 d_Idx).Stage)))), DetI (.bool (!(i_isStage ((p_0.Idxs.getD k91 d_Idx).Stage)))), DetI (.bool (!(i_isStage ((p_0.Idxs.getD k91 d_Idx).Stage)))), DetI (.bool (!(i_isStage ((p_0.Idxs.getD k91 d_Idx).Stage)))), DetI (.int .i64 ((k91 : Int))), DetI (.bool (decide (0 < (k91 : Int)))), DetI (.bool (decide (0 < (k91 : Int)))), DetI (undef), DetI (undef), DetI (undef), DetI (undef), DetI (undef), DetI (undef), DetI (undef), DetI (undef), DetI (undef), DetI (undef), DetI (.bool (false)), DetI (.bool (false))]) Try.follows rfl rfl rfl rfl rfl rfl (vgetI_stable ⟨StableI.det _, StableI.det _, StableI.det _, StableI.det _, StableI.det _, StableI.det _, StableI.det _, StableI.det _, StableI.det _, StableI.det _, StableI.det _, StableI.det _, StableI.det _, StableI.det _, StableI.det _, StableI.det _, StableI.det _, StableI.det _, StableI.det _, StableI.det _, StableI.det _, StableI.det _, StableI.det _, StableI.det _, StableI.det _, StableI.det _, StableI.det _, StableI.det _, StableI.det _, StableI.det _, StableI.det _, StableI.det _, StableI.det _, StableI.det _, StableI.det _, StableI.det _, trivial⟩) ⟨?_, ?_, ?_, ?_, ?_, ?_, ?_, ?_, ?_, ?_, ?_, ?_, ?_, ?_, ?_, ?_, ?_, ?_, ?_, ?_, ?_, ?_, ?_, ?_, ?_, ?_, ?_, ?_, ?_, ?_, ?_, ?_, ?_, ?_, ?_, ?_, trivial⟩ ?_
                        · intro L472 w473 hi474
                          have hE475 := hi474.ex
                          have hE475z := Ex.size hE475
                          have hx476 := hi474.old 6 _ rfl rfl
                          exact OpR.op' rfl (Yl.sameI (yl_fieldAddr Try.fd132_0 rfl hx476 ⟨fun _ _ => rfl, rfl⟩))
                        · intro L477 w478 hi479
                          have hE480 := hi479.ex
                          have hE480z := Ex.size hE480
                          obtain ⟨_, _, _, hx481, -, -, -, rfl⟩ := hi479.dep 0 52 rfl rfl
                          have q482 := Box.ex hB156 hE480
                          exact OpR.op' rfl (Yl.sameI (yl_load1 Try.ty9 rfl hx481 ((q482.cell 0).trans rfl) ⟨fun _ _ => rfl, rfl⟩))
                        · intro L483 w484 hi485
                          have hE486 := hi485.ex
                          have hE486z := Ex.size hE486
                          obtain ⟨_, _, _, hx487, -, -, -, rfl⟩ := hi485.dep 1 53 rfl rfl
                          refine OpR.op' rfl (yl_call Try.en142 rfl (opvs_cons hx487 (opvs_cons rfl opvs_nil)) (Cal.mono (c_i_areLetters ((p_0.Idxs.getD k91 d_Idx).Name) 1 (okL.getD o3.2.2 ok_d_Idx _)) ?_))
                          rintro v489 w488 ⟨rfl, hE490⟩
                          exact ⟨rfl, hE490⟩
                        · intro L491 w492 hi493
                          have hE494 := hi493.ex
                          have hE494z := Ex.size hE494
                          obtain ⟨_, _, _, hx495, -, -, -, rfl⟩ := hi493.dep 2 54 rfl rfl
                          exact OpR.op' rfl (Yl.sameI (yl_not rfl hx495 ⟨fun _ _ => rfl, rfl⟩))
                        · intro L496 w497 hi498
                          have hE499 := hi498.ex
                          have hE499z := Ex.size hE499
                          obtain ⟨_, _, _, hx500, -, -, -, rfl⟩ := hi498.dep 3 55 rfl rfl
                          exact OpR.op' rfl (Yl.sameI (yl_move rfl hx500 ⟨fun _ _ => rfl, rfl⟩))
                        · intro L501 w502 hi503
                          have hE504 := hi503.ex
                          have hE504z := Ex.size hE504
                          obtain ⟨_, _, _, hx505, -, -, -, rfl⟩ := hi503.dep 4 56 rfl rfl
                          have hx506 := hi503.old 6 _ rfl rfl
                          exact OpR.want rfl rfl hx505 (not_t hb159) (Yl.sameI (yl_fieldAddr Try.fd132_1 rfl hx506 ⟨fun _ _ => rfl, rfl⟩))
                        · intro L507 w508 hi509
                          have hE510 := hi509.ex
                          have hE510z := Ex.size hE510
                          obtain ⟨_, _, _, hx511, -, -, -, rfl⟩ := hi509.dep 4 56 rfl rfl
                          obtain ⟨_, _, _, hx512, -, -, -, rfl⟩ := hi509.dep 5 57 rfl rfl
                          have q513 := Box.ex hB156 hE510
                          exact OpR.want rfl rfl hx511 (not_t hb159) (Yl.sameI (yl_load1 Try.ty3 rfl hx512 ((q513.cell 1).trans rfl) ⟨fun _ _ => rfl, rfl⟩))
                        · intro L514 w515 hi516
                          have hE517 := hi516.ex
                          have hE517z := Ex.size hE517
                          obtain ⟨_, _, _, hx518, -, -, -, rfl⟩ := hi516.dep 4 56 rfl rfl
                          have hx519 := hi516.old 1 _ rfl rfl
                          exact OpR.want rfl rfl hx518 (not_t hb159) (Yl.sameI (yl_fieldAddr Try.fd35_1 rfl hx519 ⟨fun _ _ => rfl, rfl⟩))
                        · intro L520 w521 hi522
                          have hE523 := hi522.ex
                          have hE523z := Ex.size hE523
                          obtain ⟨_, _, _, hx524, -, -, -, rfl⟩ := hi522.dep 4 56 rfl rfl
                          obtain ⟨_, _, _, hx525, -, -, -, rfl⟩ := hi522.dep 7 59 rfl rfl
                          have q526 := Box.ex q469 hE523
                          exact OpR.want rfl rfl hx524 (not_t hb159) (Yl.sameI (yl_load1 Try.ty22 rfl hx525 ((q526.cell 1).trans rfl) ⟨fun _ _ => rfl, rfl⟩))
                        · intro L527 w528 hi529
                          have hE530 := hi529.ex
                          have hE530z := Ex.size hE530
                          obtain ⟨_, _, _, hx531, -, -, -, rfl⟩ := hi529.dep 4 56 rfl rfl
                          obtain ⟨_, _, _, hx532, -, -, -, rfl⟩ := hi529.dep 8 60 rfl rfl
                          exact OpR.want rfl rfl hx531 (not_t hb159) (Yl.sameI (yl_len Try.un22 rfl hx532 ⟨fun _ _ => rfl, rfl⟩))
                        · intro L533 w534 hi535
                          have hE536 := hi535.ex
                          have hE536z := Ex.size hE536
                          obtain ⟨_, _, _, hx537, -, -, -, rfl⟩ := hi535.dep 4 56 rfl rfl
                          obtain ⟨_, _, _, hx538, -, -, -, rfl⟩ := hi535.dep 9 61 rfl rfl
                          exact OpR.want rfl rfl hx537 (not_t hb159) (Yl.sameI (yl_sub rfl hx538 rfl ⟨fun _ _ => rfl, rfl⟩))
                        · intro L539 w540 hi541
                          have hE542 := hi541.ex
                          have hE542z := Ex.size hE542
                          obtain ⟨_, _, _, hx543, -, -, -, rfl⟩ := hi541.dep 4 56 rfl rfl
                          obtain ⟨_, _, _, hx544, -, -, -, rfl⟩ := hi541.dep 6 58 rfl rfl
                          obtain ⟨_, _, _, hx545, -, -, -, rfl⟩ := hi541.dep 10 62 rfl rfl
                          refine OpR.want rfl rfl hx543 (not_t hb159) (yl_call Try.en129 rfl (opvs_cons hx544 (opvs_cons rfl (opvs_cons hx545 opvs_nil))) (Cal.mono (c_i_within ((p_0.Idxs.getD k91 d_Idx).Col) 1 (IntKind.wrap .i64 ((p_0.Cols.length : Int) - 1))) ?_))
                          rintro v547 w546 ⟨rfl, hE548⟩
                          exact ⟨rfl, hE548⟩
                        · intro L549 w550 hi551
                          have hE552 := hi551.ex
                          have hE552z := Ex.size hE552
                          obtain ⟨_, _, _, hx553, -, -, -, rfl⟩ := hi551.dep 4 56 rfl rfl
                          obtain ⟨_, _, _, hx554, -, -, -, rfl⟩ := hi551.dep 11 63 rfl rfl
                          exact OpR.want rfl rfl hx553 (not_t hb159) (Yl.sameI (yl_not rfl hx554 ⟨fun _ _ => rfl, rfl⟩))
                        · intro L555 w556 hi557
                          have hE558 := hi557.ex
                          have hE558z := Ex.size hE558
                          obtain ⟨_, _, _, hx559, -, -, -, rfl⟩ := hi557.dep 12 64 rfl rfl
                          obtain ⟨_, _, _, hx560, -, -, -, rfl⟩ := hi557.dep 4 56 rfl rfl
                          exact OpR.op' rfl (Yl.sameI (yl_pick_f rfl hx560 (not_t hb159) hx559 ⟨fun _ _ => rfl, rfl⟩))
                        · intro L561 w562 hi563
                          have hE564 := hi563.ex
                          have hE564z := Ex.size hE564
                          obtain ⟨_, _, _, hx565, -, -, -, rfl⟩ := hi563.dep 13 65 rfl rfl
                          exact OpR.op' rfl (Yl.sameI (yl_move rfl hx565 ⟨fun _ _ => rfl, rfl⟩))
                        · intro L566 w567 hi568
                          have hE569 := hi568.ex
                          have hE569z := Ex.size hE569
                          obtain ⟨_, _, _, hx570, -, -, -, rfl⟩ := hi568.dep 14 66 rfl rfl
                          have hx571 := hi568.old 6 _ rfl rfl
                          exact OpR.want rfl rfl hx570 (not_t hb164) (Yl.sameI (yl_fieldAddr Try.fd132_2 rfl hx571 ⟨fun _ _ => rfl, rfl⟩))
                        · intro L572 w573 hi574
                          have hE575 := hi574.ex
                          have hE575z := Ex.size hE575
                          obtain ⟨_, _, _, hx576, -, -, -, rfl⟩ := hi574.dep 14 66 rfl rfl
                          obtain ⟨_, _, _, hx577, -, -, -, rfl⟩ := hi574.dep 15 67 rfl rfl
                          have q578 := Box.ex hB156 hE575
                          exact OpR.want rfl rfl hx576 (not_t hb164) (Yl.sameI (yl_load1 Try.ty3 rfl hx577 ((q578.cell 2).trans rfl) ⟨fun _ _ => rfl, rfl⟩))
                        · intro L579 w580 hi581
                          have hE582 := hi581.ex
                          have hE582z := Ex.size hE582
                          obtain ⟨_, _, _, hx583, -, -, -, rfl⟩ := hi581.dep 14 66 rfl rfl
                          obtain ⟨_, _, _, hx584, -, -, -, rfl⟩ := hi581.dep 16 68 rfl rfl
                          refine OpR.want rfl rfl hx583 (not_t hb164) (yl_call Try.en108 rfl (opvs_cons hx584 opvs_nil) (Cal.mono (c_i_isStage ((p_0.Idxs.getD k91 d_Idx).Stage)) ?_))
                          rintro v586 w585 ⟨rfl, hE587⟩
                          exact ⟨rfl, hE587⟩
                        · intro L588 w589 hi590
                          have hE591 := hi590.ex
                          have hE591z := Ex.size hE591
                          obtain ⟨_, _, _, hx592, -, -, -, rfl⟩ := hi590.dep 14 66 rfl rfl
                          obtain ⟨_, _, _, hx593, -, -, -, rfl⟩ := hi590.dep 17 69 rfl rfl
                          exact OpR.want rfl rfl hx592 (not_t hb164) (Yl.sameI (yl_not rfl hx593 ⟨fun _ _ => rfl, rfl⟩))
                        · intro L594 w595 hi596
                          have hE597 := hi596.ex
                          have hE597z := Ex.size hE597
                          obtain ⟨_, _, _, hx598, -, -, -, rfl⟩ := hi596.dep 18 70 rfl rfl
                          obtain ⟨_, _, _, hx599, -, -, -, rfl⟩ := hi596.dep 14 66 rfl rfl
                          exact OpR.op' rfl (Yl.sameI (yl_pick_f rfl hx599 (not_t hb164) hx598 ⟨fun _ _ => rfl, rfl⟩))
                        · intro L600 w601 hi602
                          have hE603 := hi602.ex
                          have hE603z := Ex.size hE603
                          obtain ⟨_, _, _, hx604, -, -, -, rfl⟩ := hi602.dep 19 71 rfl rfl
                          exact OpR.op' rfl (Yl.sameI (yl_move rfl hx604 ⟨fun _ _ => rfl, rfl⟩))
                        · intro L605 w606 hi607
                          have hE608 := hi607.ex
                          have hE608z := Ex.size hE608
                          obtain ⟨_, _, _, hx609, -, -, -, rfl⟩ := hi607.dep 20 72 rfl rfl
                          have hx610 := hi607.old 5 _ rfl rfl
                          exact OpR.want rfl rfl hx609 (not_t hb170) (Yl.sameI (yl_move rfl hx610 ⟨fun _ _ => rfl, rfl⟩))
                        · intro L611 w612 hi613
                          have hE614 := hi613.ex
                          have hE614z := Ex.size hE614
                          obtain ⟨_, _, _, hx615, -, -, -, rfl⟩ := hi613.dep 20 72 rfl rfl
                          obtain ⟨_, _, _, hx616, -, -, -, rfl⟩ := hi613.dep 21 73 rfl rfl
                          exact OpR.want rfl rfl hx615 (not_t hb170) (Yl.sameI (yl_gtr rfl hx616 rfl ⟨fun _ _ => rfl, rfl⟩))
                        · intro L617 w618 hi619
                          have hE620 := hi619.ex
                          have hE620z := Ex.size hE620
                          obtain ⟨_, _, _, hx621, -, -, -, rfl⟩ := hi619.dep 20 72 rfl rfl
                          obtain ⟨_, _, _, hx622, -, -, -, rfl⟩ := hi619.dep 22 74 rfl rfl
                          exact OpR.want rfl rfl hx621 (not_t hb170) (Yl.sameI (yl_move rfl hx622 ⟨fun _ _ => rfl, rfl⟩))
                        · intro L623 w624 hi625
                          have hE626 := hi625.ex
                          have hE626z := Ex.size hE626
                          obtain ⟨_, _, _, hx627, -, -, -, rfl⟩ := hi625.dep 23 75 rfl rfl
                          exact OpR.skip rfl rfl hx627 hb176 ⟨rfl, Ex.refl _⟩
                        · intro L628 w629 hi630
                          have hE631 := hi630.ex
                          have hE631z := Ex.size hE631
                          obtain ⟨_, _, _, hx632, -, -, -, rfl⟩ := hi630.dep 23 75 rfl rfl
                          exact OpR.skip rfl rfl hx632 hb176 ⟨rfl, Ex.refl _⟩
                        · intro L633 w634 hi635
                          have hE636 := hi635.ex
                          have hE636z := Ex.size hE636
                          obtain ⟨_, _, _, hx637, -, -, -, rfl⟩ := hi635.dep 23 75 rfl rfl
                          exact OpR.skip rfl rfl hx637 hb176 ⟨rfl, Ex.refl _⟩
                        · intro L638 w639 hi640
                          have hE641 := hi640.ex
                          have hE641z := Ex.size hE641
                          obtain ⟨_, _, _, hx642, -, -, -, rfl⟩ := hi640.dep 23 75 rfl rfl
                          exact OpR.skip rfl rfl hx642 hb176 ⟨rfl, Ex.refl _⟩
                        · intro L643 w644 hi645
                          have hE646 := hi645.ex
                          have hE646z := Ex.size hE646
                          obtain ⟨_, _, _, hx647, -, -, -, rfl⟩ := hi645.dep 23 75 rfl rfl
                          exact OpR.skip rfl rfl hx647 hb176 ⟨rfl, Ex.refl _⟩
                        · intro L648 w649 hi650
                          have hE651 := hi650.ex
                          have hE651z := Ex.size hE651
                          obtain ⟨_, _, _, hx652, -, -, -, rfl⟩ := hi650.dep 23 75 rfl rfl
                          exact OpR.skip rfl rfl hx652 hb176 ⟨rfl, Ex.refl _⟩
                        · intro L653 w654 hi655
                          have hE656 := hi655.ex
                          have hE656z := Ex.size hE656
                          obtain ⟨_, _, _, hx657, -, -, -, rfl⟩ := hi655.dep 23 75 rfl rfl
                          exact OpR.skip rfl rfl hx657 hb176 ⟨rfl, Ex.refl _⟩
                        · intro L658 w659 hi660
                          have hE661 := hi660.ex
                          have hE661z := Ex.size hE661
                          obtain ⟨_, _, _, hx662, -, -, -, rfl⟩ := hi660.dep 23 75 rfl rfl
                          exact OpR.skip rfl rfl hx662 hb176 ⟨rfl, Ex.refl _⟩
                        · intro L663 w664 hi665
                          have hE666 := hi665.ex
                          have hE666z := Ex.size hE666
                          obtain ⟨_, _, _, hx667, -, -, -, rfl⟩ := hi665.dep 23 75 rfl rfl
                          exact OpR.skip rfl rfl hx667 hb176 ⟨rfl, Ex.refl _⟩
                        · intro L668 w669 hi670
                          have hE671 := hi670.ex
                          have hE671z := Ex.size hE671
                          obtain ⟨_, _, _, hx672, -, -, -, rfl⟩ := hi670.dep 23 75 rfl rfl
                          exact OpR.skip rfl rfl hx672 hb176 ⟨rfl, Ex.refl _⟩
                        · intro L673 w674 hi675
                          have hE676 := hi675.ex
                          have hE676z := Ex.size hE676
                          obtain ⟨_, _, _, hx677, -, -, -, rfl⟩ := hi675.dep 20 72 rfl rfl
                          obtain ⟨_, _, _, hx678, -, -, -, rfl⟩ := hi675.dep 33 85 rfl rfl
                          obtain ⟨_, _, _, hx679, -, -, -, rfl⟩ := hi675.dep 23 75 rfl rfl
                          exact OpR.want rfl rfl hx677 (not_t hb170) (Yl.sameI (yl_pick_f rfl hx679 hb176 rfl ⟨fun _ _ => rfl, rfl⟩))
                        · intro L680 w681 hi682
                          have hE683 := hi682.ex
                          have hE683z := Ex.size hE683
                          obtain ⟨_, _, _, hx684, -, -, -, rfl⟩ := hi682.dep 34 86 rfl rfl
                          obtain ⟨_, _, _, hx685, -, -, -, rfl⟩ := hi682.dep 20 72 rfl rfl
                          exact OpR.op' rfl (Yl.sameI (yl_pick_f rfl hx685 (not_t hb170) hx684 ⟨fun _ _ => rfl, rfl⟩))
                        · intro fl689 fh690 L686 w687 hp688
                          have hE691 := hp688.ex
                          have hE691z := Ex.size hE691
                          have hx692 := hp688.old 1 _ rfl rfl
                          have hx693 := hp688.old 45 _ rfl rfl
                          have hx694 := hp688.old 46 _ rfl rfl
                          have hx695 := hp688.old 47 _ rfl rfl
                          obtain ⟨_, hx696, rfl⟩ := hp688.new 5 57 rfl rfl
                          obtain ⟨_, hx697, rfl⟩ := hp688.new 6 58 rfl rfl
                          obtain ⟨_, hx698, rfl⟩ := hp688.new 7 59 rfl rfl
                          obtain ⟨_, hx699, rfl⟩ := hp688.new 8 60 rfl rfl
                          obtain ⟨_, hx700, rfl⟩ := hp688.new 9 61 rfl rfl
                          obtain ⟨_, hx701, rfl⟩ := hp688.new 10 62 rfl rfl
                          obtain ⟨_, hx702, rfl⟩ := hp688.new 11 63 rfl rfl
                          obtain ⟨_, hx703, rfl⟩ := hp688.new 12 64 rfl rfl
                          obtain ⟨_, hx704, rfl⟩ := hp688.new 15 67 rfl rfl
                          obtain ⟨_, hx705, rfl⟩ := hp688.new 16 68 rfl rfl
                          obtain ⟨_, hx706, rfl⟩ := hp688.new 17 69 rfl rfl
                          obtain ⟨_, hx707, rfl⟩ := hp688.new 18 70 rfl rfl
                          obtain ⟨_, hx708, rfl⟩ := hp688.new 21 73 rfl rfl
                          obtain ⟨_, hx709, rfl⟩ := hp688.new 22 74 rfl rfl
                          obtain ⟨_, hx710, rfl⟩ := hp688.new 23 75 rfl rfl
                          obtain ⟨_, hx711, rfl⟩ := hp688.new 24 76 rfl rfl
                          obtain ⟨_, hx712, rfl⟩ := hp688.new 25 77 rfl rfl
                          obtain ⟨_, hx713, rfl⟩ := hp688.new 26 78 rfl rfl
                          obtain ⟨_, hx714, rfl⟩ := hp688.new 27 79 rfl rfl
                          obtain ⟨_, hx715, rfl⟩ := hp688.new 28 80 rfl rfl
                          obtain ⟨_, hx716, rfl⟩ := hp688.new 29 81 rfl rfl
                          obtain ⟨_, hx717, rfl⟩ := hp688.new 30 82 rfl rfl
                          obtain ⟨_, hx718, rfl⟩ := hp688.new 31 83 rfl rfl
                          obtain ⟨_, hx719, rfl⟩ := hp688.new 32 84 rfl rfl
                          obtain ⟨_, hx720, rfl⟩ := hp688.new 33 85 rfl rfl
                          obtain ⟨_, hx721, rfl⟩ := hp688.new 34 86 rfl rfl
                          obtain ⟨_, hx722, rfl⟩ := hp688.new 35 87 rfl rfl
                          refine SeqR.done ?_
                          refine tn ?_
                          refine CW.sub (Sub.cons (d := 1) hx692 (Sub.cons (d := 45) hx693 (Sub.cons (d := 46) hx694 (Sub.cons (d := 47) hx695 (Sub.cons (d := 57) hx696 (Sub.cons (d := 58) hx697 (Sub.cons (d := 59) hx698 (Sub.cons (d := 60) hx699 (Sub.cons (d := 61) hx700 (Sub.cons (d := 62) hx701 (Sub.cons (d := 63) hx702 (Sub.cons (d := 64) hx703 (Sub.cons (d := 67) hx704 (Sub.cons (d := 68) hx705 (Sub.cons (d := 69) hx706 (Sub.cons (d := 70) hx707 (Sub.cons (d := 73) hx708 (Sub.cons (d := 74) hx709 (Sub.cons (d := 75) hx710 (Sub.cons (d := 76) hx711 (Sub.cons (d := 77) hx712 (Sub.cons (d := 78) hx713 (Sub.cons (d := 79) hx714 (Sub.cons (d := 80) hx715 (Sub.cons (d := 81) hx716 (Sub.cons (d := 82) hx717 (Sub.cons (d := 83) hx718 (Sub.cons (d := 84) hx719 (Sub.cons (d := 85) hx720 (Sub.cons (d := 86) hx721 (Sub.cons (d := 87) hx722 (Sub.nil _)))))))))))))))))))))))))))))))) ?_
                          refine CW.cond_f rfl rfl ?_
                          refine CW.skip ?_
                          refine bn ?_
                          refine tn ?_
                          refine CW.region ?_
                          refine SeqR.d1 rfl rfl rfl (yl_inc rfl rfl rfl (by omega) ?_)
                          refine SeqR.d1 rfl rfl rfl (yl_move rfl rfl ?_)
                          refine SeqR.done ?_
                          refine tn ?_
                          have hB723 : B_i_GoodTable_1 p_0 k91 () = .cont () := by simp only [B_i_GoodTable_1, hb16, hb21, hb23, hb159, hb164, hb170, hb176, hL90, cond_true, cond_false, loopE_done, loopE_ret]
                          have q724 := Box.ex q469 hE691
                          have q725 := RdS.ex good_Str hf143 hE154
                          have q726 := RdS.only good_Str q725 hO157 (by simp only [Iv]; omega)
                          have q727 := RdS.ex good_Str q726 hE691
                          have q728 := RdS.ex good_Idx hf144 hE154
                          have q729 := RdS.only good_Idx q728 hO157 (by simp only [Iv]; omega)
                          have q730 := RdS.ex good_Idx q729 hE691
                          have q731 := Ex.trans hf145 hE154
                          have q732 := Below.only q731 hO157 (by omega)
                          have q733 := Ex.trans q732 hE691
                          exact ⟨p_0.Idxs.length - (k91 + 1), by omega, k91 + 1, rfl, hlt147, (by omega), rfl, rfl, rfl, rfl, q724, q727, q730, q733, (loopM.cont hlt147 hB723).symm.trans hI136⟩
                    · skip
                      have q735 := Box.ex hf142 hE154
                      have q736 := Box.only q735 hO157 (by omega)
                      refine CW.drawsI 36 (vgetI [DetI (.pointer (some ⟨b149, 0 + 0, none⟩)), DetI (.string (bs ((p_0.Idxs.getD k91 d_Idx).Name))), DetI (.bool ((i_areLetters ((p_0.Idxs.getD k91 d_Idx).Name) 1))), DetI (.bool (!(i_areLetters ((p_0.Idxs.getD k91 d_Idx).Name) 1))), DetI (.bool (!(i_areLetters ((p_0.Idxs.getD k91 d_Idx).Name) 1))), DetI (.pointer (some ⟨b149, 0 + 1, none⟩)), DetI (.int .i64 ((p_0.Idxs.getD k91 d_Idx).Col)), DetI (.pointer (some ⟨b7, 0 + 1, none⟩)), DetI (.slice A1 p_0.Cols.length c1), DetI (.int .i64 ((p_0.Cols.length : Int))), DetI (.int .i64 (IntKind.wrap .i64 ((p_0.Cols.length : Int) - 1))), DetI (.bool ((i_within ((p_0.Idxs.getD k91 d_Idx).Col) 1 (IntKind.wrap .i64 ((p_0.Cols.length : Int) - 1))))), DetI (.bool (!(i_within ((p_0.Idxs.getD k91 d_Idx).Col) 1 (IntKind.wrap .i64 ((p_0.Cols.length : Int) - 1))))), DetI (.bool (!(i_within ((p_0.Idxs.getD k91 d_Idx).Col) 1 (IntKind.wrap .i64 ((p_0.Cols.length : Int) - 1))))), DetI (.bool (!(i_within ((p_0.Idxs.getD k91 d_Idx).Col) 1 (IntKind.wrap .i64 ((p_0.Cols.length : Int) - 1))))), DetI (.pointer (some ⟨b149, 0 + 2, none⟩)), DetI (.int .i64 ((p_0.Idxs.getD k91 d_Idx).Stage)), DetI (.bool ((i_isStage ((p_0.Idxs.getD k91 d_Idx).Stage)))), DetI (.bool (!(i_isStage ((p_0.Idxs.getD k91 d_Idx).Stage)))), DetI (.bool (!(i_isStage ((p_0.Idxs.getD k91 d_Idx).Stage)))), DetI (.bool (!(i_isStage ((p_0.Idxs.getD k91 d_Idx).Stage)))), DetI (undef), DetI (undef), DetI (undef), DetI (undef), DetI (undef), DetI (undef), DetI (undef), DetI (undef), DetI (undef), DetI (undef), DetI (undef), DetI (undef), DetI (undef), DetI (undef), DetI (.bool (true))]) Try.follows rfl rfl rfl rfl rfl rfl (vgetI_stable ⟨StableI.det _, StableI.det _, StableI.det _, StableI.det _, StableI.det _, StableI.det _, StableI.det _, StableI.det _, StableI.det _, StableI.det _, StableI.det _, StableI.det _, StableI.det _, StableI.det _, StableI.det _, StableI.det _, StableI.det _, StableI.det _, StableI.det _, StableI.det _, StableI.det _, StableI.det _, StableI.det _, StableI.det _, StableI.det _, StableI.det _, StableI.det _, StableI.det _, StableI.det _, StableI.det _, StableI.det _, StableI.det _, StableI.det _, StableI.det _, StableI.det _, StableI.det _, trivial⟩) ⟨?_, ?_, ?_, ?_, ?_, ?_, ?_, ?_, ?_, ?_, ?_, ?_, ?_, ?_, ?_, ?_, ?_, ?_, ?_, ?_, ?_, ?_, ?_, ?_, ?_, ?_, ?_, ?_, ?_, ?_, ?_, ?_, ?_, ?_, ?_, ?_, trivial⟩ ?_
                      · intro L739 w740 hi741
                        have hE742 := hi741.ex
                        have hE742z := Ex.size hE742
                        have hx743 := hi741.old 6 _ rfl rfl
                        exact OpR.op' rfl (Yl.sameI (yl_fieldAddr Try.fd132_0 rfl hx743 ⟨fun _ _ => rfl, rfl⟩))
                      · intro L744 w745 hi746
                        have hE747 := hi746.ex
                        have hE747z := Ex.size hE747
                        obtain ⟨_, _, _, hx748, -, -, -, rfl⟩ := hi746.dep 0 52 rfl rfl
                        have q749 := Box.ex hB156 hE747
                        exact OpR.op' rfl (Yl.sameI (yl_load1 Try.ty9 rfl hx748 ((q749.cell 0).trans rfl) ⟨fun _ _ => rfl, rfl⟩))
                      · intro L750 w751 hi752
                        have hE753 := hi752.ex
                        have hE753z := Ex.size hE753
                        obtain ⟨_, _, _, hx754, -, -, -, rfl⟩ := hi752.dep 1 53 rfl rfl
                        refine OpR.op' rfl (yl_call Try.en142 rfl (opvs_cons hx754 (opvs_cons rfl opvs_nil)) (Cal.mono (c_i_areLetters ((p_0.Idxs.getD k91 d_Idx).Name) 1 (okL.getD o3.2.2 ok_d_Idx _)) ?_))
                        rintro v756 w755 ⟨rfl, hE757⟩
                        exact ⟨rfl, hE757⟩
                      · intro L758 w759 hi760
                        have hE761 := hi760.ex
                        have hE761z := Ex.size hE761
                        obtain ⟨_, _, _, hx762, -, -, -, rfl⟩ := hi760.dep 2 54 rfl rfl
                        exact OpR.op' rfl (Yl.sameI (yl_not rfl hx762 ⟨fun _ _ => rfl, rfl⟩))
                      · intro L763 w764 hi765
                        have hE766 := hi765.ex
                        have hE766z := Ex.size hE766
                        obtain ⟨_, _, _, hx767, -, -, -, rfl⟩ := hi765.dep 3 55 rfl rfl
                        exact OpR.op' rfl (Yl.sameI (yl_move rfl hx767 ⟨fun _ _ => rfl, rfl⟩))
                      · intro L768 w769 hi770
                        have hE771 := hi770.ex
                        have hE771z := Ex.size hE771
                        obtain ⟨_, _, _, hx772, -, -, -, rfl⟩ := hi770.dep 4 56 rfl rfl
                        have hx773 := hi770.old 6 _ rfl rfl
                        exact OpR.want rfl rfl hx772 (not_t hb159) (Yl.sameI (yl_fieldAddr Try.fd132_1 rfl hx773 ⟨fun _ _ => rfl, rfl⟩))
                      · intro L774 w775 hi776
                        have hE777 := hi776.ex
                        have hE777z := Ex.size hE777
                        obtain ⟨_, _, _, hx778, -, -, -, rfl⟩ := hi776.dep 4 56 rfl rfl
                        obtain ⟨_, _, _, hx779, -, -, -, rfl⟩ := hi776.dep 5 57 rfl rfl
                        have q780 := Box.ex hB156 hE777
                        exact OpR.want rfl rfl hx778 (not_t hb159) (Yl.sameI (yl_load1 Try.ty3 rfl hx779 ((q780.cell 1).trans rfl) ⟨fun _ _ => rfl, rfl⟩))
                      · intro L781 w782 hi783
                        have hE784 := hi783.ex
                        have hE784z := Ex.size hE784
                        obtain ⟨_, _, _, hx785, -, -, -, rfl⟩ := hi783.dep 4 56 rfl rfl
                        have hx786 := hi783.old 1 _ rfl rfl
                        exact OpR.want rfl rfl hx785 (not_t hb159) (Yl.sameI (yl_fieldAddr Try.fd35_1 rfl hx786 ⟨fun _ _ => rfl, rfl⟩))
                      · intro L787 w788 hi789
                        have hE790 := hi789.ex
                        have hE790z := Ex.size hE790
                        obtain ⟨_, _, _, hx791, -, -, -, rfl⟩ := hi789.dep 4 56 rfl rfl
                        obtain ⟨_, _, _, hx792, -, -, -, rfl⟩ := hi789.dep 7 59 rfl rfl
                        have q793 := Box.ex q736 hE790
                        exact OpR.want rfl rfl hx791 (not_t hb159) (Yl.sameI (yl_load1 Try.ty22 rfl hx792 ((q793.cell 1).trans rfl) ⟨fun _ _ => rfl, rfl⟩))
                      · intro L794 w795 hi796
                        have hE797 := hi796.ex
                        have hE797z := Ex.size hE797
                        obtain ⟨_, _, _, hx798, -, -, -, rfl⟩ := hi796.dep 4 56 rfl rfl
                        obtain ⟨_, _, _, hx799, -, -, -, rfl⟩ := hi796.dep 8 60 rfl rfl
                        exact OpR.want rfl rfl hx798 (not_t hb159) (Yl.sameI (yl_len Try.un22 rfl hx799 ⟨fun _ _ => rfl, rfl⟩))
                      · intro L800 w801 hi802
                        have hE803 := hi802.ex
                        have hE803z := Ex.size hE803
                        obtain ⟨_, _, _, hx804, -, -, -, rfl⟩ := hi802.dep 4 56 rfl rfl
                        obtain ⟨_, _, _, hx805, -, -, -, rfl⟩ := hi802.dep 9 61 rfl rfl
                        exact OpR.want rfl rfl hx804 (not_t hb159) (Yl.sameI (yl_sub rfl hx805 rfl ⟨fun _ _ => rfl, rfl⟩))
                      · intro L806 w807 hi808
                        have hE809 := hi808.ex
                        have hE809z := Ex.size hE809
                        obtain ⟨_, _, _, hx810, -, -, -, rfl⟩ := hi808.dep 4 56 rfl rfl
                        obtain ⟨_, _, _, hx811, -, -, -, rfl⟩ := hi808.dep 6 58 rfl rfl
                        obtain ⟨_, _, _, hx812, -, -, -, rfl⟩ := hi808.dep 10 62 rfl rfl
                        refine OpR.want rfl rfl hx810 (not_t hb159) (yl_call Try.en129 rfl (opvs_cons hx811 (opvs_cons rfl (opvs_cons hx812 opvs_nil))) (Cal.mono (c_i_within ((p_0.Idxs.getD k91 d_Idx).Col) 1 (IntKind.wrap .i64 ((p_0.Cols.length : Int) - 1))) ?_))
                        rintro v814 w813 ⟨rfl, hE815⟩
                        exact ⟨rfl, hE815⟩
                      · intro L816 w817 hi818
                        have hE819 := hi818.ex
                        have hE819z := Ex.size hE819
                        obtain ⟨_, _, _, hx820, -, -, -, rfl⟩ := hi818.dep 4 56 rfl rfl
                        obtain ⟨_, _, _, hx821, -, -, -, rfl⟩ := hi818.dep 11 63 rfl rfl
                        exact OpR.want rfl rfl hx820 (not_t hb159) (Yl.sameI (yl_not rfl hx821 ⟨fun _ _ => rfl, rfl⟩))
                      · intro L822 w823 hi824
                        have hE825 := hi824.ex
                        have hE825z := Ex.size hE825
                        obtain ⟨_, _, _, hx826, -, -, -, rfl⟩ := hi824.dep 12 64 rfl rfl
                        obtain ⟨_, _, _, hx827, -, -, -, rfl⟩ := hi824.dep 4 56 rfl rfl
                        exact OpR.op' rfl (Yl.sameI (yl_pick_f rfl hx827 (not_t hb159) hx826 ⟨fun _ _ => rfl, rfl⟩))
                      · intro L828 w829 hi830
                        have hE831 := hi830.ex
                        have hE831z := Ex.size hE831
                        obtain ⟨_, _, _, hx832, -, -, -, rfl⟩ := hi830.dep 13 65 rfl rfl
                        exact OpR.op' rfl (Yl.sameI (yl_move rfl hx832 ⟨fun _ _ => rfl, rfl⟩))
                      · intro L833 w834 hi835
                        have hE836 := hi835.ex
                        have hE836z := Ex.size hE836
                        obtain ⟨_, _, _, hx837, -, -, -, rfl⟩ := hi835.dep 14 66 rfl rfl
                        have hx838 := hi835.old 6 _ rfl rfl
                        exact OpR.want rfl rfl hx837 (not_t hb164) (Yl.sameI (yl_fieldAddr Try.fd132_2 rfl hx838 ⟨fun _ _ => rfl, rfl⟩))
                      · intro L839 w840 hi841
                        have hE842 := hi841.ex
                        have hE842z := Ex.size hE842
                        obtain ⟨_, _, _, hx843, -, -, -, rfl⟩ := hi841.dep 14 66 rfl rfl
                        obtain ⟨_, _, _, hx844, -, -, -, rfl⟩ := hi841.dep 15 67 rfl rfl
                        have q845 := Box.ex hB156 hE842
                        exact OpR.want rfl rfl hx843 (not_t hb164) (Yl.sameI (yl_load1 Try.ty3 rfl hx844 ((q845.cell 2).trans rfl) ⟨fun _ _ => rfl, rfl⟩))
                      · intro L846 w847 hi848
                        have hE849 := hi848.ex
                        have hE849z := Ex.size hE849
                        obtain ⟨_, _, _, hx850, -, -, -, rfl⟩ := hi848.dep 14 66 rfl rfl
                        obtain ⟨_, _, _, hx851, -, -, -, rfl⟩ := hi848.dep 16 68 rfl rfl
                        refine OpR.want rfl rfl hx850 (not_t hb164) (yl_call Try.en108 rfl (opvs_cons hx851 opvs_nil) (Cal.mono (c_i_isStage ((p_0.Idxs.getD k91 d_Idx).Stage)) ?_))
                        rintro v853 w852 ⟨rfl, hE854⟩
                        exact ⟨rfl, hE854⟩
                      · intro L855 w856 hi857
                        have hE858 := hi857.ex
                        have hE858z := Ex.size hE858
                        obtain ⟨_, _, _, hx859, -, -, -, rfl⟩ := hi857.dep 14 66 rfl rfl
                        obtain ⟨_, _, _, hx860, -, -, -, rfl⟩ := hi857.dep 17 69 rfl rfl
                        exact OpR.want rfl rfl hx859 (not_t hb164) (Yl.sameI (yl_not rfl hx860 ⟨fun _ _ => rfl, rfl⟩))
                      · intro L861 w862 hi863
                        have hE864 := hi863.ex
                        have hE864z := Ex.size hE864
                        obtain ⟨_, _, _, hx865, -, -, -, rfl⟩ := hi863.dep 18 70 rfl rfl
                        obtain ⟨_, _, _, hx866, -, -, -, rfl⟩ := hi863.dep 14 66 rfl rfl
                        exact OpR.op' rfl (Yl.sameI (yl_pick_f rfl hx866 (not_t hb164) hx865 ⟨fun _ _ => rfl, rfl⟩))
                      · intro L867 w868 hi869
                        have hE870 := hi869.ex
                        have hE870z := Ex.size hE870
                        obtain ⟨_, _, _, hx871, -, -, -, rfl⟩ := hi869.dep 19 71 rfl rfl
                        exact OpR.op' rfl (Yl.sameI (yl_move rfl hx871 ⟨fun _ _ => rfl, rfl⟩))
                      · intro L872 w873 hi874
                        have hE875 := hi874.ex
                        have hE875z := Ex.size hE875
                        obtain ⟨_, _, _, hx876, -, -, -, rfl⟩ := hi874.dep 20 72 rfl rfl
                        exact OpR.skip rfl rfl hx876 (not_f hb170) ⟨rfl, Ex.refl _⟩
                      · intro L877 w878 hi879
                        have hE880 := hi879.ex
                        have hE880z := Ex.size hE880
                        obtain ⟨_, _, _, hx881, -, -, -, rfl⟩ := hi879.dep 20 72 rfl rfl
                        exact OpR.skip rfl rfl hx881 (not_f hb170) ⟨rfl, Ex.refl _⟩
                      · intro L882 w883 hi884
                        have hE885 := hi884.ex
                        have hE885z := Ex.size hE885
                        obtain ⟨_, _, _, hx886, -, -, -, rfl⟩ := hi884.dep 20 72 rfl rfl
                        exact OpR.skip rfl rfl hx886 (not_f hb170) ⟨rfl, Ex.refl _⟩
                      · intro L887 w888 hi889
                        have hE890 := hi889.ex
                        have hE890z := Ex.size hE890
                        obtain ⟨_, _, _, hx891, -, -, -, rfl⟩ := hi889.dep 23 75 rfl rfl
                        exact OpR.undef rfl rfl hx891 ⟨rfl, Ex.refl _⟩
                      · intro L892 w893 hi894
                        have hE895 := hi894.ex
                        have hE895z := Ex.size hE895
                        obtain ⟨_, _, _, hx896, -, -, -, rfl⟩ := hi894.dep 23 75 rfl rfl
                        exact OpR.undef rfl rfl hx896 ⟨rfl, Ex.refl _⟩
                      · intro L897 w898 hi899
                        have hE900 := hi899.ex
                        have hE900z := Ex.size hE900
                        obtain ⟨_, _, _, hx901, -, -, -, rfl⟩ := hi899.dep 23 75 rfl rfl
                        exact OpR.undef rfl rfl hx901 ⟨rfl, Ex.refl _⟩
                      · intro L902 w903 hi904
                        have hE905 := hi904.ex
                        have hE905z := Ex.size hE905
                        obtain ⟨_, _, _, hx906, -, -, -, rfl⟩ := hi904.dep 23 75 rfl rfl
                        exact OpR.undef rfl rfl hx906 ⟨rfl, Ex.refl _⟩
                      · intro L907 w908 hi909
                        have hE910 := hi909.ex
                        have hE910z := Ex.size hE910
                        obtain ⟨_, _, _, hx911, -, -, -, rfl⟩ := hi909.dep 23 75 rfl rfl
                        exact OpR.undef rfl rfl hx911 ⟨rfl, Ex.refl _⟩
                      · intro L912 w913 hi914
                        have hE915 := hi914.ex
                        have hE915z := Ex.size hE915
                        obtain ⟨_, _, _, hx916, -, -, -, rfl⟩ := hi914.dep 23 75 rfl rfl
                        exact OpR.undef rfl rfl hx916 ⟨rfl, Ex.refl _⟩
                      · intro L917 w918 hi919
                        have hE920 := hi919.ex
                        have hE920z := Ex.size hE920
                        obtain ⟨_, _, _, hx921, -, -, -, rfl⟩ := hi919.dep 23 75 rfl rfl
                        exact OpR.undef rfl rfl hx921 ⟨rfl, Ex.refl _⟩
                      · intro L922 w923 hi924
                        have hE925 := hi924.ex
                        have hE925z := Ex.size hE925
                        obtain ⟨_, _, _, hx926, -, -, -, rfl⟩ := hi924.dep 23 75 rfl rfl
                        exact OpR.undef rfl rfl hx926 ⟨rfl, Ex.refl _⟩
                      · intro L927 w928 hi929
                        have hE930 := hi929.ex
                        have hE930z := Ex.size hE930
                        obtain ⟨_, _, _, hx931, -, -, -, rfl⟩ := hi929.dep 23 75 rfl rfl
                        exact OpR.undef rfl rfl hx931 ⟨rfl, Ex.refl _⟩
                      · intro L932 w933 hi934
                        have hE935 := hi934.ex
                        have hE935z := Ex.size hE935
                        obtain ⟨_, _, _, hx936, -, -, -, rfl⟩ := hi934.dep 23 75 rfl rfl
                        exact OpR.undef rfl rfl hx936 ⟨rfl, Ex.refl _⟩
                      · intro L937 w938 hi939
                        have hE940 := hi939.ex
                        have hE940z := Ex.size hE940
                        obtain ⟨_, _, _, hx941, -, -, -, rfl⟩ := hi939.dep 20 72 rfl rfl
                        exact OpR.skip rfl rfl hx941 (not_f hb170) ⟨rfl, Ex.refl _⟩
                      · intro L942 w943 hi944
                        have hE945 := hi944.ex
                        have hE945z := Ex.size hE945
                        obtain ⟨_, _, _, hx946, -, -, -, rfl⟩ := hi944.dep 34 86 rfl rfl
                        obtain ⟨_, _, _, hx947, -, -, -, rfl⟩ := hi944.dep 20 72 rfl rfl
                        exact OpR.op' rfl (Yl.sameI (yl_pick_t rfl hx947 (not_f hb170) rfl ⟨fun _ _ => rfl, rfl⟩))
                      · intro fl951 fh952 L948 w949 hp950
                        have hE953 := hp950.ex
                        have hE953z := Ex.size hE953
                        have hx954 := hp950.old 1 _ rfl rfl
                        have hx955 := hp950.old 45 _ rfl rfl
                        have hx956 := hp950.old 46 _ rfl rfl
                        have hx957 := hp950.old 47 _ rfl rfl
                        obtain ⟨_, hx958, rfl⟩ := hp950.new 5 57 rfl rfl
                        obtain ⟨_, hx959, rfl⟩ := hp950.new 6 58 rfl rfl
                        obtain ⟨_, hx960, rfl⟩ := hp950.new 7 59 rfl rfl
                        obtain ⟨_, hx961, rfl⟩ := hp950.new 8 60 rfl rfl
                        obtain ⟨_, hx962, rfl⟩ := hp950.new 9 61 rfl rfl
                        obtain ⟨_, hx963, rfl⟩ := hp950.new 10 62 rfl rfl
                        obtain ⟨_, hx964, rfl⟩ := hp950.new 11 63 rfl rfl
                        obtain ⟨_, hx965, rfl⟩ := hp950.new 12 64 rfl rfl
                        obtain ⟨_, hx966, rfl⟩ := hp950.new 15 67 rfl rfl
                        obtain ⟨_, hx967, rfl⟩ := hp950.new 16 68 rfl rfl
                        obtain ⟨_, hx968, rfl⟩ := hp950.new 17 69 rfl rfl
                        obtain ⟨_, hx969, rfl⟩ := hp950.new 18 70 rfl rfl
                        obtain ⟨_, hx970, rfl⟩ := hp950.new 21 73 rfl rfl
                        obtain ⟨_, hx971, rfl⟩ := hp950.new 22 74 rfl rfl
                        obtain ⟨_, hx972, rfl⟩ := hp950.new 23 75 rfl rfl
                        obtain ⟨_, hx973, rfl⟩ := hp950.new 24 76 rfl rfl
                        obtain ⟨_, hx974, rfl⟩ := hp950.new 25 77 rfl rfl
                        obtain ⟨_, hx975, rfl⟩ := hp950.new 26 78 rfl rfl
                        obtain ⟨_, hx976, rfl⟩ := hp950.new 27 79 rfl rfl
                        obtain ⟨_, hx977, rfl⟩ := hp950.new 28 80 rfl rfl
                        obtain ⟨_, hx978, rfl⟩ := hp950.new 29 81 rfl rfl
                        obtain ⟨_, hx979, rfl⟩ := hp950.new 30 82 rfl rfl
                        obtain ⟨_, hx980, rfl⟩ := hp950.new 31 83 rfl rfl
                        obtain ⟨_, hx981, rfl⟩ := hp950.new 32 84 rfl rfl
                        obtain ⟨_, hx982, rfl⟩ := hp950.new 33 85 rfl rfl
                        obtain ⟨_, hx983, rfl⟩ := hp950.new 34 86 rfl rfl
                        obtain ⟨_, hx984, rfl⟩ := hp950.new 35 87 rfl rfl
                        refine SeqR.done ?_
                        refine tn ?_
                        refine CW.sub (Sub.cons (d := 1) hx954 (Sub.cons (d := 45) hx955 (Sub.cons (d := 46) hx956 (Sub.cons (d := 47) hx957 (Sub.cons (d := 57) hx958 (Sub.cons (d := 58) hx959 (Sub.cons (d := 59) hx960 (Sub.cons (d := 60) hx961 (Sub.cons (d := 61) hx962 (Sub.cons (d := 62) hx963 (Sub.cons (d := 63) hx964 (Sub.cons (d := 64) hx965 (Sub.cons (d := 67) hx966 (Sub.cons (d := 68) hx967 (Sub.cons (d := 69) hx968 (Sub.cons (d := 70) hx969 (Sub.cons (d := 73) hx970 (Sub.cons (d := 74) hx971 (Sub.cons (d := 75) hx972 (Sub.cons (d := 76) hx973 (Sub.cons (d := 77) hx974 (Sub.cons (d := 78) hx975 (Sub.cons (d := 79) hx976 (Sub.cons (d := 80) hx977 (Sub.cons (d := 81) hx978 (Sub.cons (d := 82) hx979 (Sub.cons (d := 83) hx980 (Sub.cons (d := 84) hx981 (Sub.cons (d := 85) hx982 (Sub.cons (d := 86) hx983 (Sub.cons (d := 87) hx984 (Sub.nil _)))))))))))))))))))))))))))))))) ?_
                        refine CW.cond_t rfl rfl ?_
                        refine CW.seq ?_
                        refine CW.region ?_
                        refine SeqR.d1 rfl rfl rfl (yl_assign rfl rfl ?_)
                        refine SeqR.done ?_
                        refine tn ?_
                        refine CW.ret ?_
                        refine br ?_
                        refine tr ?_
                        refine tr ?_
                        have hB986 : B_i_GoodTable_1 p_0 k91 () = .ret false := by simp only [B_i_GoodTable_1, hb16, hb21, hb23, hb159, hb164, hb170, hL90, cond_true, cond_false, loopE_done, loopE_ret]
                        have hL985 : loopM (B_i_GoodTable_1 p_0) (p_0.Idxs.length - 0) 0 () = .ret false := hI136.symm.trans (loopM.ret hlt147 hB986)
                        refine br ?_
                        refine tr ?_
                        refine rr rfl (.cons rfl .nil) ?_
                        have hM987 : (i_GoodTable p_0) = (false) := by simp only [i_GoodTable, hb16, hb21, hb23, hb159, hb164, hb170, hL90, hL985, cond_true, cond_false, loopE_done, loopE_ret]
                        rw [hM987]
                        have q988 := Ex.trans hf145 hE154
                        have q989 := Below.only q988 hO157 (by omega)
                        have q990 := Ex.trans q989 hE953
                        exact ⟨rfl, q990⟩
                  · skip
                    have q992 := Box.ex hf142 hE154
                    have q993 := Box.only q992 hO157 (by omega)
                    refine CW.drawsI 36 (vgetI [DetI (.pointer (some ⟨b149, 0 + 0, none⟩)), DetI (.string (bs ((p_0.Idxs.getD k91 d_Idx).Name))), DetI (.bool ((i_areLetters ((p_0.Idxs.getD k91 d_Idx).Name) 1))), DetI (.bool (!(i_areLetters ((p_0.Idxs.getD k91 d_Idx).Name) 1))), DetI (.bool (!(i_areLetters ((p_0.Idxs.getD k91 d_Idx).Name) 1))), DetI (.pointer (some ⟨b149, 0 + 1, none⟩)), DetI (.int .i64 ((p_0.Idxs.getD k91 d_Idx).Col)), DetI (.pointer (some ⟨b7, 0 + 1, none⟩)), DetI (.slice A1 p_0.Cols.length c1), DetI (.int .i64 ((p_0.Cols.length : Int))), DetI (.int .i64 (IntKind.wrap .i64 ((p_0.Cols.length : Int) - 1))), DetI (.bool ((i_within ((p_0.Idxs.getD k91 d_Idx).Col) 1 (IntKind.wrap .i64 ((p_0.Cols.length : Int) - 1))))), DetI (.bool (!(i_within ((p_0.Idxs.getD k91 d_Idx).Col) 1 (IntKind.wrap .i64 ((p_0.Cols.length : Int) - 1))))), DetI (.bool (!(i_within ((p_0.Idxs.getD k91 d_Idx).Col) 1 (IntKind.wrap .i64 ((p_0.Cols.length : Int) - 1))))), DetI (.bool (!(i_within ((p_0.Idxs.getD k91 d_Idx).Col) 1 (IntKind.wrap .i64 ((p_0.Cols.length : Int) - 1))))), DetI (undef), DetI (undef), DetI (undef), DetI (undef), DetI (.bool (true)), DetI (.bool (true)), DetI (undef), DetI (undef), DetI (undef), DetI (undef), DetI (undef), DetI (undef), DetI (undef), DetI (undef), DetI (undef), DetI (undef), DetI (undef), DetI (undef), DetI (undef), DetI (undef), DetI (.bool (true))]) Try.follows rfl rfl rfl rfl rfl rfl (vgetI_stable ⟨StableI.det _, StableI.det _, StableI.det _, StableI.det _, StableI.det _, StableI.det _, StableI.det _, StableI.det _, StableI.det _, StableI.det _, StableI.det _, StableI.det _, StableI.det _, StableI.det _, StableI.det _, StableI.det _, StableI.det _, StableI.det _, StableI.det _, StableI.det _, StableI.det _, StableI.det _, StableI.det _, StableI.det _, StableI.det _, StableI.det _, StableI.det _, StableI.det _, StableI.det _, StableI.det _, StableI.det _, StableI.det _, StableI.det _, StableI.det _, StableI.det _, StableI.det _, trivial⟩) ⟨?_, ?_, ?_, ?_, ?_, ?_, ?_, ?_, ?_, ?_, ?_, ?_, ?_, ?_, ?_, ?_, ?_, ?_, ?_, ?_, ?_, ?_, ?_, ?_, ?_, ?_, ?_, ?_, ?_, ?_, ?_, ?_, ?_, ?_, ?_, ?_, trivial⟩ ?_
                    · intro L995 w996 hi997
                      have hE998 := hi997.ex
                      have hE998z := Ex.size hE998
                      have hx999 := hi997.old 6 _ rfl rfl
                      exact OpR.op' rfl (Yl.sameI (yl_fieldAddr Try.fd132_0 rfl hx999 ⟨fun _ _ => rfl, rfl⟩))
                    · intro L1000 w1001 hi1002
                      have hE1003 := hi1002.ex
                      have hE1003z := Ex.size hE1003
                      obtain ⟨_, _, _, hx1004, -, -, -, rfl⟩ := hi1002.dep 0 52 rfl rfl
                      have q1005 := Box.ex hB156 hE1003
                      exact OpR.op' rfl (Yl.sameI (yl_load1 Try.ty9 rfl hx1004 ((q1005.cell 0).trans rfl) ⟨fun _ _ => rfl, rfl⟩))
                    · intro L1006 w1007 hi1008
                      have hE1009 := hi1008.ex
                      have hE1009z := Ex.size hE1009
                      obtain ⟨_, _, _, hx1010, -, -, -, rfl⟩ := hi1008.dep 1 53 rfl rfl
                      refine OpR.op' rfl (yl_call Try.en142 rfl (opvs_cons hx1010 (opvs_cons rfl opvs_nil)) (Cal.mono (c_i_areLetters ((p_0.Idxs.getD k91 d_Idx).Name) 1 (okL.getD o3.2.2 ok_d_Idx _)) ?_))
                      rintro v1012 w1011 ⟨rfl, hE1013⟩
                      exact ⟨rfl, hE1013⟩
                    · intro L1014 w1015 hi1016
                      have hE1017 := hi1016.ex
                      have hE1017z := Ex.size hE1017
                      obtain ⟨_, _, _, hx1018, -, -, -, rfl⟩ := hi1016.dep 2 54 rfl rfl
                      exact OpR.op' rfl (Yl.sameI (yl_not rfl hx1018 ⟨fun _ _ => rfl, rfl⟩))
                    · intro L1019 w1020 hi1021
                      have hE1022 := hi1021.ex
                      have hE1022z := Ex.size hE1022
                      obtain ⟨_, _, _, hx1023, -, -, -, rfl⟩ := hi1021.dep 3 55 rfl rfl
                      exact OpR.op' rfl (Yl.sameI (yl_move rfl hx1023 ⟨fun _ _ => rfl, rfl⟩))
                    · intro L1024 w1025 hi1026
                      have hE1027 := hi1026.ex
                      have hE1027z := Ex.size hE1027
                      obtain ⟨_, _, _, hx1028, -, -, -, rfl⟩ := hi1026.dep 4 56 rfl rfl
                      have hx1029 := hi1026.old 6 _ rfl rfl
                      exact OpR.want rfl rfl hx1028 (not_t hb159) (Yl.sameI (yl_fieldAddr Try.fd132_1 rfl hx1029 ⟨fun _ _ => rfl, rfl⟩))
                    · intro L1030 w1031 hi1032
                      have hE1033 := hi1032.ex
                      have hE1033z := Ex.size hE1033
                      obtain ⟨_, _, _, hx1034, -, -, -, rfl⟩ := hi1032.dep 4 56 rfl rfl
                      obtain ⟨_, _, _, hx1035, -, -, -, rfl⟩ := hi1032.dep 5 57 rfl rfl
                      have q1036 := Box.ex hB156 hE1033
                      exact OpR.want rfl rfl hx1034 (not_t hb159) (Yl.sameI (yl_load1 Try.ty3 rfl hx1035 ((q1036.cell 1).trans rfl) ⟨fun _ _ => rfl, rfl⟩))
                    · intro L1037 w1038 hi1039
                      have hE1040 := hi1039.ex
                      have hE1040z := Ex.size hE1040
                      obtain ⟨_, _, _, hx1041, -, -, -, rfl⟩ := hi1039.dep 4 56 rfl rfl
                      have hx1042 := hi1039.old 1 _ rfl rfl
                      exact OpR.want rfl rfl hx1041 (not_t hb159) (Yl.sameI (yl_fieldAddr Try.fd35_1 rfl hx1042 ⟨fun _ _ => rfl, rfl⟩))
                    · intro L1043 w1044 hi1045
                      have hE1046 := hi1045.ex
                      have hE1046z := Ex.size hE1046
                      obtain ⟨_, _, _, hx1047, -, -, -, rfl⟩ := hi1045.dep 4 56 rfl rfl
                      obtain ⟨_, _, _, hx1048, -, -, -, rfl⟩ := hi1045.dep 7 59 rfl rfl
                      have q1049 := Box.ex q993 hE1046
                      exact OpR.want rfl rfl hx1047 (not_t hb159) (Yl.sameI (yl_load1 Try.ty22 rfl hx1048 ((q1049.cell 1).trans rfl) ⟨fun _ _ => rfl, rfl⟩))
                    · intro L1050 w1051 hi1052
                      have hE1053 := hi1052.ex
                      have hE1053z := Ex.size hE1053
                      obtain ⟨_, _, _, hx1054, -, -, -, rfl⟩ := hi1052.dep 4 56 rfl rfl
                      obtain ⟨_, _, _, hx1055, -, -, -, rfl⟩ := hi1052.dep 8 60 rfl rfl
                      exact OpR.want rfl rfl hx1054 (not_t hb159) (Yl.sameI (yl_len Try.un22 rfl hx1055 ⟨fun _ _ => rfl, rfl⟩))
                    · intro L1056 w1057 hi1058
                      have hE1059 := hi1058.ex
                      have hE1059z := Ex.size hE1059
                      obtain ⟨_, _, _, hx1060, -, -, -, rfl⟩ := hi1058.dep 4 56 rfl rfl
                      obtain ⟨_, _, _, hx1061, -, -, -, rfl⟩ := hi1058.dep 9 61 rfl rfl
                      exact OpR.want rfl rfl hx1060 (not_t hb159) (Yl.sameI (yl_sub rfl hx1061 rfl ⟨fun _ _ => rfl, rfl⟩))
                    · intro L1062 w1063 hi1064
                      have hE1065 := hi1064.ex
                      have hE1065z := Ex.size hE1065
                      obtain ⟨_, _, _, hx1066, -, -, -, rfl⟩ := hi1064.dep 4 56 rfl rfl
                      obtain ⟨_, _, _, hx1067, -, -, -, rfl⟩ := hi1064.dep 6 58 rfl rfl
                      obtain ⟨_, _, _, hx1068, -, -, -, rfl⟩ := hi1064.dep 10 62 rfl rfl
                      refine OpR.want rfl rfl hx1066 (not_t hb159) (yl_call Try.en129 rfl (opvs_cons hx1067 (opvs_cons rfl (opvs_cons hx1068 opvs_nil))) (Cal.mono (c_i_within ((p_0.Idxs.getD k91 d_Idx).Col) 1 (IntKind.wrap .i64 ((p_0.Cols.length : Int) - 1))) ?_))
                      rintro v1070 w1069 ⟨rfl, hE1071⟩
                      exact ⟨rfl, hE1071⟩
                    · intro L1072 w1073 hi1074
                      have hE1075 := hi1074.ex
                      have hE1075z := Ex.size hE1075
                      obtain ⟨_, _, _, hx1076, -, -, -, rfl⟩ := hi1074.dep 4 56 rfl rfl
                      obtain ⟨_, _, _, hx1077, -, -, -, rfl⟩ := hi1074.dep 11 63 rfl rfl
                      exact OpR.want rfl rfl hx1076 (not_t hb159) (Yl.sameI (yl_not rfl hx1077 ⟨fun _ _ => rfl, rfl⟩))
                    · intro L1078 w1079 hi1080
                      have hE1081 := hi1080.ex
                      have hE1081z := Ex.size hE1081
                      obtain ⟨_, _, _, hx1082, -, -, -, rfl⟩ := hi1080.dep 12 64 rfl rfl
                      obtain ⟨_, _, _, hx1083, -, -, -, rfl⟩ := hi1080.dep 4 56 rfl rfl
                      exact OpR.op' rfl (Yl.sameI (yl_pick_f rfl hx1083 (not_t hb159) hx1082 ⟨fun _ _ => rfl, rfl⟩))
                    · intro L1084 w1085 hi1086
                      have hE1087 := hi1086.ex
                      have hE1087z := Ex.size hE1087
                      obtain ⟨_, _, _, hx1088, -, -, -, rfl⟩ := hi1086.dep 13 65 rfl rfl
                      exact OpR.op' rfl (Yl.sameI (yl_move rfl hx1088 ⟨fun _ _ => rfl, rfl⟩))
                    · intro L1089 w1090 hi1091
                      have hE1092 := hi1091.ex
                      have hE1092z := Ex.size hE1092
                      obtain ⟨_, _, _, hx1093, -, -, -, rfl⟩ := hi1091.dep 14 66 rfl rfl
                      exact OpR.skip rfl rfl hx1093 (not_f hb164) ⟨rfl, Ex.refl _⟩
                    · intro L1094 w1095 hi1096
                      have hE1097 := hi1096.ex
                      have hE1097z := Ex.size hE1097
                      obtain ⟨_, _, _, hx1098, -, -, -, rfl⟩ := hi1096.dep 14 66 rfl rfl
                      exact OpR.skip rfl rfl hx1098 (not_f hb164) ⟨rfl, Ex.refl _⟩
                    · intro L1099 w1100 hi1101
                      have hE1102 := hi1101.ex
                      have hE1102z := Ex.size hE1102
                      obtain ⟨_, _, _, hx1103, -, -, -, rfl⟩ := hi1101.dep 14 66 rfl rfl
                      exact OpR.skip rfl rfl hx1103 (not_f hb164) ⟨rfl, Ex.refl _⟩
                    · intro L1104 w1105 hi1106
                      have hE1107 := hi1106.ex
                      have hE1107z := Ex.size hE1107
                      obtain ⟨_, _, _, hx1108, -, -, -, rfl⟩ := hi1106.dep 14 66 rfl rfl
                      exact OpR.skip rfl rfl hx1108 (not_f hb164) ⟨rfl, Ex.refl _⟩
                    · intro L1109 w1110 hi1111
                      have hE1112 := hi1111.ex
                      have hE1112z := Ex.size hE1112
                      obtain ⟨_, _, _, hx1113, -, -, -, rfl⟩ := hi1111.dep 18 70 rfl rfl
                      obtain ⟨_, _, _, hx1114, -, -, -, rfl⟩ := hi1111.dep 14 66 rfl rfl
                      exact OpR.op' rfl (Yl.sameI (yl_pick_t rfl hx1114 (not_f hb164) rfl ⟨fun _ _ => rfl, rfl⟩))
                    · intro L1115 w1116 hi1117
                      have hE1118 := hi1117.ex
                      have hE1118z := Ex.size hE1118
                      obtain ⟨_, _, _, hx1119, -, -, -, rfl⟩ := hi1117.dep 19 71 rfl rfl
                      exact OpR.op' rfl (Yl.sameI (yl_move rfl hx1119 ⟨fun _ _ => rfl, rfl⟩))
                    · intro L1120 w1121 hi1122
                      have hE1123 := hi1122.ex
                      have hE1123z := Ex.size hE1123
                      obtain ⟨_, _, _, hx1124, -, -, -, rfl⟩ := hi1122.dep 20 72 rfl rfl
                      exact OpR.skip rfl rfl hx1124 rfl ⟨rfl, Ex.refl _⟩
                    · intro L1125 w1126 hi1127
                      have hE1128 := hi1127.ex
                      have hE1128z := Ex.size hE1128
                      obtain ⟨_, _, _, hx1129, -, -, -, rfl⟩ := hi1127.dep 20 72 rfl rfl
                      exact OpR.skip rfl rfl hx1129 rfl ⟨rfl, Ex.refl _⟩
                    · intro L1130 w1131 hi1132
                      have hE1133 := hi1132.ex
                      have hE1133z := Ex.size hE1133
                      obtain ⟨_, _, _, hx1134, -, -, -, rfl⟩ := hi1132.dep 20 72 rfl rfl
                      exact OpR.skip rfl rfl hx1134 rfl ⟨rfl, Ex.refl _⟩
                    · intro L1135 w1136 hi1137
                      have hE1138 := hi1137.ex
                      have hE1138z := Ex.size hE1138
                      obtain ⟨_, _, _, hx1139, -, -, -, rfl⟩ := hi1137.dep 23 75 rfl rfl
                      exact OpR.undef rfl rfl hx1139 ⟨rfl, Ex.refl _⟩
                    · intro L1140 w1141 hi1142
                      have hE1143 := hi1142.ex
                      have hE1143z := Ex.size hE1143
                      obtain ⟨_, _, _, hx1144, -, -, -, rfl⟩ := hi1142.dep 23 75 rfl rfl
                      exact OpR.undef rfl rfl hx1144 ⟨rfl, Ex.refl _⟩
                    · intro L1145 w1146 hi1147
                      have hE1148 := hi1147.ex
                      have hE1148z := Ex.size hE1148
                      obtain ⟨_, _, _, hx1149, -, -, -, rfl⟩ := hi1147.dep 23 75 rfl rfl
                      exact OpR.undef rfl rfl hx1149 ⟨rfl, Ex.refl _⟩
                    · intro L1150 w1151 hi1152
                      have hE1153 := hi1152.ex
                      have hE1153z := Ex.size hE1153
                      obtain ⟨_, _, _, hx1154, -, -, -, rfl⟩ := hi1152.dep 23 75 rfl rfl
                      exact OpR.undef rfl rfl hx1154 ⟨rfl, Ex.refl _⟩
                    · intro L1155 w1156 hi1157
                      have hE1158 := hi1157.ex
                      have hE1158z := Ex.size hE1158
                      obtain ⟨_, _, _, hx1159, -, -, -, rfl⟩ := hi1157.dep 23 75 rfl rfl
                      exact OpR.undef rfl rfl hx1159 ⟨rfl, Ex.refl _⟩
                    · intro L1160 w1161 hi1162
                      have hE1163 := hi1162.ex
                      have hE1163z := Ex.size hE1163
                      obtain ⟨_, _, _, hx1164, -, -, -, rfl⟩ := hi1162.dep 23 75 rfl rfl
                      exact OpR.undef rfl rfl hx1164 ⟨rfl, Ex.refl _⟩
                    · intro L1165 w1166 hi1167
                      have hE1168 := hi1167.ex
                      have hE1168z := Ex.size hE1168
                      obtain ⟨_, _, _, hx1169, -, -, -, rfl⟩ := hi1167.dep 23 75 rfl rfl
                      exact OpR.undef rfl rfl hx1169 ⟨rfl, Ex.refl _⟩
                    · intro L1170 w1171 hi1172
                      have hE1173 := hi1172.ex
                      have hE1173z := Ex.size hE1173
                      obtain ⟨_, _, _, hx1174, -, -, -, rfl⟩ := hi1172.dep 23 75 rfl rfl
                      exact OpR.undef rfl rfl hx1174 ⟨rfl, Ex.refl _⟩
                    · intro L1175 w1176 hi1177
                      have hE1178 := hi1177.ex
                      have hE1178z := Ex.size hE1178
                      obtain ⟨_, _, _, hx1179, -, -, -, rfl⟩ := hi1177.dep 23 75 rfl rfl
                      exact OpR.undef rfl rfl hx1179 ⟨rfl, Ex.refl _⟩
                    · intro L1180 w1181 hi1182
                      have hE1183 := hi1182.ex
                      have hE1183z := Ex.size hE1183
                      obtain ⟨_, _, _, hx1184, -, -, -, rfl⟩ := hi1182.dep 23 75 rfl rfl
                      exact OpR.undef rfl rfl hx1184 ⟨rfl, Ex.refl _⟩
                    · intro L1185 w1186 hi1187
                      have hE1188 := hi1187.ex
                      have hE1188z := Ex.size hE1188
                      obtain ⟨_, _, _, hx1189, -, -, -, rfl⟩ := hi1187.dep 20 72 rfl rfl
                      exact OpR.skip rfl rfl hx1189 rfl ⟨rfl, Ex.refl _⟩
                    · intro L1190 w1191 hi1192
                      have hE1193 := hi1192.ex
                      have hE1193z := Ex.size hE1193
                      obtain ⟨_, _, _, hx1194, -, -, -, rfl⟩ := hi1192.dep 34 86 rfl rfl
                      obtain ⟨_, _, _, hx1195, -, -, -, rfl⟩ := hi1192.dep 20 72 rfl rfl
                      exact OpR.op' rfl (Yl.sameI (yl_pick_t rfl hx1195 rfl rfl ⟨fun _ _ => rfl, rfl⟩))
                    · intro fl1199 fh1200 L1196 w1197 hp1198
                      have hE1201 := hp1198.ex
                      have hE1201z := Ex.size hE1201
                      have hx1202 := hp1198.old 1 _ rfl rfl
                      have hx1203 := hp1198.old 45 _ rfl rfl
                      have hx1204 := hp1198.old 46 _ rfl rfl
                      have hx1205 := hp1198.old 47 _ rfl rfl
                      obtain ⟨_, hx1206, rfl⟩ := hp1198.new 5 57 rfl rfl
                      obtain ⟨_, hx1207, rfl⟩ := hp1198.new 6 58 rfl rfl
                      obtain ⟨_, hx1208, rfl⟩ := hp1198.new 7 59 rfl rfl
                      obtain ⟨_, hx1209, rfl⟩ := hp1198.new 8 60 rfl rfl
                      obtain ⟨_, hx1210, rfl⟩ := hp1198.new 9 61 rfl rfl
                      obtain ⟨_, hx1211, rfl⟩ := hp1198.new 10 62 rfl rfl
                      obtain ⟨_, hx1212, rfl⟩ := hp1198.new 11 63 rfl rfl
                      obtain ⟨_, hx1213, rfl⟩ := hp1198.new 12 64 rfl rfl
                      obtain ⟨_, hx1214, rfl⟩ := hp1198.new 15 67 rfl rfl
                      obtain ⟨_, hx1215, rfl⟩ := hp1198.new 16 68 rfl rfl
                      obtain ⟨_, hx1216, rfl⟩ := hp1198.new 17 69 rfl rfl
                      obtain ⟨_, hx1217, rfl⟩ := hp1198.new 18 70 rfl rfl
                      obtain ⟨_, hx1218, rfl⟩ := hp1198.new 21 73 rfl rfl
                      obtain ⟨_, hx1219, rfl⟩ := hp1198.new 22 74 rfl rfl
                      obtain ⟨_, hx1220, rfl⟩ := hp1198.new 23 75 rfl rfl
                      obtain ⟨_, hx1221, rfl⟩ := hp1198.new 24 76 rfl rfl
                      obtain ⟨_, hx1222, rfl⟩ := hp1198.new 25 77 rfl rfl
                      obtain ⟨_, hx1223, rfl⟩ := hp1198.new 26 78 rfl rfl
                      obtain ⟨_, hx1224, rfl⟩ := hp1198.new 27 79 rfl rfl
                      obtain ⟨_, hx1225, rfl⟩ := hp1198.new 28 80 rfl rfl
                      obtain ⟨_, hx1226, rfl⟩ := hp1198.new 29 81 rfl rfl
                      obtain ⟨_, hx1227, rfl⟩ := hp1198.new 30 82 rfl rfl
                      obtain ⟨_, hx1228, rfl⟩ := hp1198.new 31 83 rfl rfl
                      obtain ⟨_, hx1229, rfl⟩ := hp1198.new 32 84 rfl rfl
                      obtain ⟨_, hx1230, rfl⟩ := hp1198.new 33 85 rfl rfl
                      obtain ⟨_, hx1231, rfl⟩ := hp1198.new 34 86 rfl rfl
                      obtain ⟨_, hx1232, rfl⟩ := hp1198.new 35 87 rfl rfl
                      refine SeqR.done ?_
                      refine tn ?_
                      refine CW.sub (Sub.cons (d := 1) hx1202 (Sub.cons (d := 45) hx1203 (Sub.cons (d := 46) hx1204 (Sub.cons (d := 47) hx1205 (Sub.cons (d := 57) hx1206 (Sub.cons (d := 58) hx1207 (Sub.cons (d := 59) hx1208 (Sub.cons (d := 60) hx1209 (Sub.cons (d := 61) hx1210 (Sub.cons (d := 62) hx1211 (Sub.cons (d := 63) hx1212 (Sub.cons (d := 64) hx1213 (Sub.cons (d := 67) hx1214 (Sub.cons (d := 68) hx1215 (Sub.cons (d := 69) hx1216 (Sub.cons (d := 70) hx1217 (Sub.cons (d := 73) hx1218 (Sub.cons (d := 74) hx1219 (Sub.cons (d := 75) hx1220 (Sub.cons (d := 76) hx1221 (Sub.cons (d := 77) hx1222 (Sub.cons (d := 78) hx1223 (Sub.cons (d := 79) hx1224 (Sub.cons (d := 80) hx1225 (Sub.cons (d := 81) hx1226 (Sub.cons (d := 82) hx1227 (Sub.cons (d := 83) hx1228 (Sub.cons (d := 84) hx1229 (Sub.cons (d := 85) hx1230 (Sub.cons (d := 86) hx1231 (Sub.cons (d := 87) hx1232 (Sub.nil _)))))))))))))))))))))))))))))))) ?_
                      refine CW.cond_t rfl rfl ?_
                      refine CW.seq ?_
                      refine CW.region ?_
                      refine SeqR.d1 rfl rfl rfl (yl_assign rfl rfl ?_)
                      refine SeqR.done ?_
                      refine tn ?_
                      refine CW.ret ?_
                      refine br ?_
                      refine tr ?_
                      refine tr ?_
                      have hB1234 : B_i_GoodTable_1 p_0 k91 () = .ret false := by simp only [B_i_GoodTable_1, hb16, hb21, hb23, hb159, hb164, hL90, cond_true, cond_false, loopE_done, loopE_ret]
                      have hL1233 : loopM (B_i_GoodTable_1 p_0) (p_0.Idxs.length - 0) 0 () = .ret false := hI136.symm.trans (loopM.ret hlt147 hB1234)
                      refine br ?_
                      refine tr ?_
                      refine rr rfl (.cons rfl .nil) ?_
                      have hM1235 : (i_GoodTable p_0) = (false) := by simp only [i_GoodTable, hb16, hb21, hb23, hb159, hb164, hL90, hL1233, cond_true, cond_false, loopE_done, loopE_ret]
                      rw [hM1235]
                      have q1236 := Ex.trans hf145 hE154
                      have q1237 := Below.only q1236 hO157 (by omega)
                      have q1238 := Ex.trans q1237 hE1201
                      exact ⟨rfl, q1238⟩
                · skip
                  refine CW.drawsI 36 (vgetI [DetI (.pointer (some ⟨b149, 0 + 0, none⟩)), DetI (.string (bs ((p_0.Idxs.getD k91 d_Idx).Name))), DetI (.bool ((i_areLetters ((p_0.Idxs.getD k91 d_Idx).Name) 1))), DetI (.bool (!(i_areLetters ((p_0.Idxs.getD k91 d_Idx).Name) 1))), DetI (.bool (!(i_areLetters ((p_0.Idxs.getD k91 d_Idx).Name) 1))), DetI (undef), DetI (undef), DetI (undef), DetI (undef), DetI (undef), DetI (undef), DetI (undef), DetI (undef), DetI (.bool (true)), DetI (.bool (true)), DetI (undef), DetI (undef), DetI (undef), DetI (undef), DetI (.bool (true)), DetI (.bool (true)), DetI (undef), DetI (undef), DetI (undef), DetI (undef), DetI (undef), DetI (undef), DetI (undef), DetI (undef), DetI (undef), DetI (undef), DetI (undef), DetI (undef), DetI (undef), DetI (undef), DetI (.bool (true))]) Try.follows rfl rfl rfl rfl rfl rfl (vgetI_stable ⟨StableI.det _, StableI.det _, StableI.det _, StableI.det _, StableI.det _, StableI.det _, StableI.det _, StableI.det _, StableI.det _, StableI.det _, StableI.det _, StableI.det _, StableI.det _, StableI.det _, StableI.det _, StableI.det _, StableI.det _, StableI.det _, StableI.det _, StableI.det _, StableI.det _, StableI.det _, StableI.det _, StableI.det _, StableI.det _, StableI.det _, StableI.det _, StableI.det _, StableI.det _, StableI.det _, StableI.det _, StableI.det _, StableI.det _, StableI.det _, StableI.det _, StableI.det _, trivial⟩) ⟨?_, ?_, ?_, ?_, ?_, ?_, ?_, ?_, ?_, ?_, ?_, ?_, ?_, ?_, ?_, ?_, ?_, ?_, ?_, ?_, ?_, ?_, ?_, ?_, ?_, ?_, ?_, ?_, ?_, ?_, ?_, ?_, ?_, ?_, ?_, ?_, trivial⟩ ?_
                  · intro L1240 w1241 hi1242
                    have hE1243 := hi1242.ex
                    have hE1243z := Ex.size hE1243
                    have hx1244 := hi1242.old 6 _ rfl rfl
                    exact OpR.op' rfl (Yl.sameI (yl_fieldAddr Try.fd132_0 rfl hx1244 ⟨fun _ _ => rfl, rfl⟩))
                  · intro L1245 w1246 hi1247
                    have hE1248 := hi1247.ex
                    have hE1248z := Ex.size hE1248
                    obtain ⟨_, _, _, hx1249, -, -, -, rfl⟩ := hi1247.dep 0 52 rfl rfl
                    have q1250 := Box.ex hB156 hE1248
                    exact OpR.op' rfl (Yl.sameI (yl_load1 Try.ty9 rfl hx1249 ((q1250.cell 0).trans rfl) ⟨fun _ _ => rfl, rfl⟩))
                  · intro L1251 w1252 hi1253
                    have hE1254 := hi1253.ex
                    have hE1254z := Ex.size hE1254
                    obtain ⟨_, _, _, hx1255, -, -, -, rfl⟩ := hi1253.dep 1 53 rfl rfl
                    refine OpR.op' rfl (yl_call Try.en142 rfl (opvs_cons hx1255 (opvs_cons rfl opvs_nil)) (Cal.mono (c_i_areLetters ((p_0.Idxs.getD k91 d_Idx).Name) 1 (okL.getD o3.2.2 ok_d_Idx _)) ?_))
                    rintro v1257 w1256 ⟨rfl, hE1258⟩
                    exact ⟨rfl, hE1258⟩
                  · intro L1259 w1260 hi1261
                    have hE1262 := hi1261.ex
                    have hE1262z := Ex.size hE1262
                    obtain ⟨_, _, _, hx1263, -, -, -, rfl⟩ := hi1261.dep 2 54 rfl rfl
                    exact OpR.op' rfl (Yl.sameI (yl_not rfl hx1263 ⟨fun _ _ => rfl, rfl⟩))
                  · intro L1264 w1265 hi1266
                    have hE1267 := hi1266.ex
                    have hE1267z := Ex.size hE1267
                    obtain ⟨_, _, _, hx1268, -, -, -, rfl⟩ := hi1266.dep 3 55 rfl rfl
                    exact OpR.op' rfl (Yl.sameI (yl_move rfl hx1268 ⟨fun _ _ => rfl, rfl⟩))
                  · intro L1269 w1270 hi1271
                    have hE1272 := hi1271.ex
                    have hE1272z := Ex.size hE1272
                    obtain ⟨_, _, _, hx1273, -, -, -, rfl⟩ := hi1271.dep 4 56 rfl rfl
                    exact OpR.skip rfl rfl hx1273 (not_f hb159) ⟨rfl, Ex.refl _⟩
                  · intro L1274 w1275 hi1276
                    have hE1277 := hi1276.ex
                    have hE1277z := Ex.size hE1277
                    obtain ⟨_, _, _, hx1278, -, -, -, rfl⟩ := hi1276.dep 4 56 rfl rfl
                    exact OpR.skip rfl rfl hx1278 (not_f hb159) ⟨rfl, Ex.refl _⟩
                  · intro L1279 w1280 hi1281
                    have hE1282 := hi1281.ex
                    have hE1282z := Ex.size hE1282
                    obtain ⟨_, _, _, hx1283, -, -, -, rfl⟩ := hi1281.dep 4 56 rfl rfl
                    exact OpR.skip rfl rfl hx1283 (not_f hb159) ⟨rfl, Ex.refl _⟩
                  · intro L1284 w1285 hi1286
                    have hE1287 := hi1286.ex
                    have hE1287z := Ex.size hE1287
                    obtain ⟨_, _, _, hx1288, -, -, -, rfl⟩ := hi1286.dep 4 56 rfl rfl
                    exact OpR.skip rfl rfl hx1288 (not_f hb159) ⟨rfl, Ex.refl _⟩
                  · intro L1289 w1290 hi1291
                    have hE1292 := hi1291.ex
                    have hE1292z := Ex.size hE1292
                    obtain ⟨_, _, _, hx1293, -, -, -, rfl⟩ := hi1291.dep 4 56 rfl rfl
                    exact OpR.skip rfl rfl hx1293 (not_f hb159) ⟨rfl, Ex.refl _⟩
                  · intro L1294 w1295 hi1296
                    have hE1297 := hi1296.ex
                    have hE1297z := Ex.size hE1297
                    obtain ⟨_, _, _, hx1298, -, -, -, rfl⟩ := hi1296.dep 4 56 rfl rfl
                    exact OpR.skip rfl rfl hx1298 (not_f hb159) ⟨rfl, Ex.refl _⟩
                  · intro L1299 w1300 hi1301
                    have hE1302 := hi1301.ex
                    have hE1302z := Ex.size hE1302
                    obtain ⟨_, _, _, hx1303, -, -, -, rfl⟩ := hi1301.dep 4 56 rfl rfl
                    exact OpR.skip rfl rfl hx1303 (not_f hb159) ⟨rfl, Ex.refl _⟩
                  · intro L1304 w1305 hi1306
                    have hE1307 := hi1306.ex
                    have hE1307z := Ex.size hE1307
                    obtain ⟨_, _, _, hx1308, -, -, -, rfl⟩ := hi1306.dep 4 56 rfl rfl
                    exact OpR.skip rfl rfl hx1308 (not_f hb159) ⟨rfl, Ex.refl _⟩
                  · intro L1309 w1310 hi1311
                    have hE1312 := hi1311.ex
                    have hE1312z := Ex.size hE1312
                    obtain ⟨_, _, _, hx1313, -, -, -, rfl⟩ := hi1311.dep 12 64 rfl rfl
                    obtain ⟨_, _, _, hx1314, -, -, -, rfl⟩ := hi1311.dep 4 56 rfl rfl
                    exact OpR.op' rfl (Yl.sameI (yl_pick_t rfl hx1314 (not_f hb159) rfl ⟨fun _ _ => rfl, rfl⟩))
                  · intro L1315 w1316 hi1317
                    have hE1318 := hi1317.ex
                    have hE1318z := Ex.size hE1318
                    obtain ⟨_, _, _, hx1319, -, -, -, rfl⟩ := hi1317.dep 13 65 rfl rfl
                    exact OpR.op' rfl (Yl.sameI (yl_move rfl hx1319 ⟨fun _ _ => rfl, rfl⟩))
                  · intro L1320 w1321 hi1322
                    have hE1323 := hi1322.ex
                    have hE1323z := Ex.size hE1323
                    obtain ⟨_, _, _, hx1324, -, -, -, rfl⟩ := hi1322.dep 14 66 rfl rfl
                    exact OpR.skip rfl rfl hx1324 rfl ⟨rfl, Ex.refl _⟩
                  · intro L1325 w1326 hi1327
                    have hE1328 := hi1327.ex
                    have hE1328z := Ex.size hE1328
                    obtain ⟨_, _, _, hx1329, -, -, -, rfl⟩ := hi1327.dep 14 66 rfl rfl
                    exact OpR.skip rfl rfl hx1329 rfl ⟨rfl, Ex.refl _⟩
                  · intro L1330 w1331 hi1332
                    have hE1333 := hi1332.ex
                    have hE1333z := Ex.size hE1333
                    obtain ⟨_, _, _, hx1334, -, -, -, rfl⟩ := hi1332.dep 14 66 rfl rfl
                    exact OpR.skip rfl rfl hx1334 rfl ⟨rfl, Ex.refl _⟩
                  · intro L1335 w1336 hi1337
                    have hE1338 := hi1337.ex
                    have hE1338z := Ex.size hE1338
                    obtain ⟨_, _, _, hx1339, -, -, -, rfl⟩ := hi1337.dep 14 66 rfl rfl
                    exact OpR.skip rfl rfl hx1339 rfl ⟨rfl, Ex.refl _⟩
                  · intro L1340 w1341 hi1342
                    have hE1343 := hi1342.ex
                    have hE1343z := Ex.size hE1343
                    obtain ⟨_, _, _, hx1344, -, -, -, rfl⟩ := hi1342.dep 18 70 rfl rfl
                    obtain ⟨_, _, _, hx1345, -, -, -, rfl⟩ := hi1342.dep 14 66 rfl rfl
                    exact OpR.op' rfl (Yl.sameI (yl_pick_t rfl hx1345 rfl rfl ⟨fun _ _ => rfl, rfl⟩))
                  · intro L1346 w1347 hi1348
                    have hE1349 := hi1348.ex
                    have hE1349z := Ex.size hE1349
                    obtain ⟨_, _, _, hx1350, -, -, -, rfl⟩ := hi1348.dep 19 71 rfl rfl
                    exact OpR.op' rfl (Yl.sameI (yl_move rfl hx1350 ⟨fun _ _ => rfl, rfl⟩))
                  · intro L1351 w1352 hi1353
                    have hE1354 := hi1353.ex
                    have hE1354z := Ex.size hE1354
                    obtain ⟨_, _, _, hx1355, -, -, -, rfl⟩ := hi1353.dep 20 72 rfl rfl
                    exact OpR.skip rfl rfl hx1355 rfl ⟨rfl, Ex.refl _⟩
                  · intro L1356 w1357 hi1358
                    have hE1359 := hi1358.ex
                    have hE1359z := Ex.size hE1359
                    obtain ⟨_, _, _, hx1360, -, -, -, rfl⟩ := hi1358.dep 20 72 rfl rfl
                    exact OpR.skip rfl rfl hx1360 rfl ⟨rfl, Ex.refl _⟩
                  · intro L1361 w1362 hi1363
                    have hE1364 := hi1363.ex
                    have hE1364z := Ex.size hE1364
                    obtain ⟨_, _, _, hx1365, -, -, -, rfl⟩ := hi1363.dep 20 72 rfl rfl
                    exact OpR.skip rfl rfl hx1365 rfl ⟨rfl, Ex.refl _⟩
                  · intro L1366 w1367 hi1368
                    have hE1369 := hi1368.ex
                    have hE1369z := Ex.size hE1369
                    obtain ⟨_, _, _, hx1370, -, -, -, rfl⟩ := hi1368.dep 23 75 rfl rfl
                    exact OpR.undef rfl rfl hx1370 ⟨rfl, Ex.refl _⟩
                  · intro L1371 w1372 hi1373
                    have hE1374 := hi1373.ex
                    have hE1374z := Ex.size hE1374
                    obtain ⟨_, _, _, hx1375, -, -, -, rfl⟩ := hi1373.dep 23 75 rfl rfl
                    exact OpR.undef rfl rfl hx1375 ⟨rfl, Ex.refl _⟩
                  · intro L1376 w1377 hi1378
                    have hE1379 := hi1378.ex
                    have hE1379z := Ex.size hE1379
                    obtain ⟨_, _, _, hx1380, -, -, -, rfl⟩ := hi1378.dep 23 75 rfl rfl
                    exact OpR.undef rfl rfl hx1380 ⟨rfl, Ex.refl _⟩
                  · intro L1381 w1382 hi1383
                    have hE1384 := hi1383.ex
                    have hE1384z := Ex.size hE1384
                    obtain ⟨_, _, _, hx1385, -, -, -, rfl⟩ := hi1383.dep 23 75 rfl rfl
                    exact OpR.undef rfl rfl hx1385 ⟨rfl, Ex.refl _⟩
                  · intro L1386 w1387 hi1388
                    have hE1389 := hi1388.ex
                    have hE1389z := Ex.size hE1389
                    obtain ⟨_, _, _, hx1390, -, -, -, rfl⟩ := hi1388.dep 23 75 rfl rfl
                    exact OpR.undef rfl rfl hx1390 ⟨rfl, Ex.refl _⟩
                  · intro L1391 w1392 hi1393
                    have hE1394 := hi1393.ex
                    have hE1394z := Ex.size hE1394
                    obtain ⟨_, _, _, hx1395, -, -, -, rfl⟩ := hi1393.dep 23 75 rfl rfl
                    exact OpR.undef rfl rfl hx1395 ⟨rfl, Ex.refl _⟩
                  · intro L1396 w1397 hi1398
                    have hE1399 := hi1398.ex
                    have hE1399z := Ex.size hE1399
                    obtain ⟨_, _, _, hx1400, -, -, -, rfl⟩ := hi1398.dep 23 75 rfl rfl
                    exact OpR.undef rfl rfl hx1400 ⟨rfl, Ex.refl _⟩
                  · intro L1401 w1402 hi1403
                    have hE1404 := hi1403.ex
                    have hE1404z := Ex.size hE1404
                    obtain ⟨_, _, _, hx1405, -, -, -, rfl⟩ := hi1403.dep 23 75 rfl rfl
                    exact OpR.undef rfl rfl hx1405 ⟨rfl, Ex.refl _⟩
                  · intro L1406 w1407 hi1408
                    have hE1409 := hi1408.ex
                    have hE1409z := Ex.size hE1409
                    obtain ⟨_, _, _, hx1410, -, -, -, rfl⟩ := hi1408.dep 23 75 rfl rfl
                    exact OpR.undef rfl rfl hx1410 ⟨rfl, Ex.refl _⟩
                  · intro L1411 w1412 hi1413
                    have hE1414 := hi1413.ex
                    have hE1414z := Ex.size hE1414
                    obtain ⟨_, _, _, hx1415, -, -, -, rfl⟩ := hi1413.dep 23 75 rfl rfl
                    exact OpR.undef rfl rfl hx1415 ⟨rfl, Ex.refl _⟩
                  · intro L1416 w1417 hi1418
                    have hE1419 := hi1418.ex
                    have hE1419z := Ex.size hE1419
                    obtain ⟨_, _, _, hx1420, -, -, -, rfl⟩ := hi1418.dep 20 72 rfl rfl
                    exact OpR.skip rfl rfl hx1420 rfl ⟨rfl, Ex.refl _⟩
                  · intro L1421 w1422 hi1423
                    have hE1424 := hi1423.ex
                    have hE1424z := Ex.size hE1424
                    obtain ⟨_, _, _, hx1425, -, -, -, rfl⟩ := hi1423.dep 34 86 rfl rfl
                    obtain ⟨_, _, _, hx1426, -, -, -, rfl⟩ := hi1423.dep 20 72 rfl rfl
                    exact OpR.op' rfl (Yl.sameI (yl_pick_t rfl hx1426 rfl rfl ⟨fun _ _ => rfl, rfl⟩))
                  · intro fl1430 fh1431 L1427 w1428 hp1429
                    have hE1432 := hp1429.ex
                    have hE1432z := Ex.size hE1432
                    have hx1433 := hp1429.old 1 _ rfl rfl
                    have hx1434 := hp1429.old 45 _ rfl rfl
                    have hx1435 := hp1429.old 46 _ rfl rfl
                    have hx1436 := hp1429.old 47 _ rfl rfl
                    obtain ⟨_, hx1437, rfl⟩ := hp1429.new 5 57 rfl rfl
                    obtain ⟨_, hx1438, rfl⟩ := hp1429.new 6 58 rfl rfl
                    obtain ⟨_, hx1439, rfl⟩ := hp1429.new 7 59 rfl rfl
                    obtain ⟨_, hx1440, rfl⟩ := hp1429.new 8 60 rfl rfl
                    obtain ⟨_, hx1441, rfl⟩ := hp1429.new 9 61 rfl rfl
                    obtain ⟨_, hx1442, rfl⟩ := hp1429.new 10 62 rfl rfl
                    obtain ⟨_, hx1443, rfl⟩ := hp1429.new 11 63 rfl rfl
                    obtain ⟨_, hx1444, rfl⟩ := hp1429.new 12 64 rfl rfl
                    obtain ⟨_, hx1445, rfl⟩ := hp1429.new 15 67 rfl rfl
                    obtain ⟨_, hx1446, rfl⟩ := hp1429.new 16 68 rfl rfl
                    obtain ⟨_, hx1447, rfl⟩ := hp1429.new 17 69 rfl rfl
                    obtain ⟨_, hx1448, rfl⟩ := hp1429.new 18 70 rfl rfl
                    obtain ⟨_, hx1449, rfl⟩ := hp1429.new 21 73 rfl rfl
                    obtain ⟨_, hx1450, rfl⟩ := hp1429.new 22 74 rfl rfl
                    obtain ⟨_, hx1451, rfl⟩ := hp1429.new 23 75 rfl rfl
                    obtain ⟨_, hx1452, rfl⟩ := hp1429.new 24 76 rfl rfl
                    obtain ⟨_, hx1453, rfl⟩ := hp1429.new 25 77 rfl rfl
                    obtain ⟨_, hx1454, rfl⟩ := hp1429.new 26 78 rfl rfl
                    obtain ⟨_, hx1455, rfl⟩ := hp1429.new 27 79 rfl rfl
                    obtain ⟨_, hx1456, rfl⟩ := hp1429.new 28 80 rfl rfl
                    obtain ⟨_, hx1457, rfl⟩ := hp1429.new 29 81 rfl rfl
                    obtain ⟨_, hx1458, rfl⟩ := hp1429.new 30 82 rfl rfl
                    obtain ⟨_, hx1459, rfl⟩ := hp1429.new 31 83 rfl rfl
                    obtain ⟨_, hx1460, rfl⟩ := hp1429.new 32 84 rfl rfl
                    obtain ⟨_, hx1461, rfl⟩ := hp1429.new 33 85 rfl rfl
                    obtain ⟨_, hx1462, rfl⟩ := hp1429.new 34 86 rfl rfl
                    obtain ⟨_, hx1463, rfl⟩ := hp1429.new 35 87 rfl rfl
                    refine SeqR.done ?_
                    refine tn ?_
                    refine CW.sub (Sub.cons (d := 1) hx1433 (Sub.cons (d := 45) hx1434 (Sub.cons (d := 46) hx1435 (Sub.cons (d := 47) hx1436 (Sub.cons (d := 57) hx1437 (Sub.cons (d := 58) hx1438 (Sub.cons (d := 59) hx1439 (Sub.cons (d := 60) hx1440 (Sub.cons (d := 61) hx1441 (Sub.cons (d := 62) hx1442 (Sub.cons (d := 63) hx1443 (Sub.cons (d := 64) hx1444 (Sub.cons (d := 67) hx1445 (Sub.cons (d := 68) hx1446 (Sub.cons (d := 69) hx1447 (Sub.cons (d := 70) hx1448 (Sub.cons (d := 73) hx1449 (Sub.cons (d := 74) hx1450 (Sub.cons (d := 75) hx1451 (Sub.cons (d := 76) hx1452 (Sub.cons (d := 77) hx1453 (Sub.cons (d := 78) hx1454 (Sub.cons (d := 79) hx1455 (Sub.cons (d := 80) hx1456 (Sub.cons (d := 81) hx1457 (Sub.cons (d := 82) hx1458 (Sub.cons (d := 83) hx1459 (Sub.cons (d := 84) hx1460 (Sub.cons (d := 85) hx1461 (Sub.cons (d := 86) hx1462 (Sub.cons (d := 87) hx1463 (Sub.nil _)))))))))))))))))))))))))))))))) ?_
                    refine CW.cond_t rfl rfl ?_
                    refine CW.seq ?_
                    refine CW.region ?_
                    refine SeqR.d1 rfl rfl rfl (yl_assign rfl rfl ?_)
                    refine SeqR.done ?_
                    refine tn ?_
                    refine CW.ret ?_
                    refine br ?_
                    refine tr ?_
                    refine tr ?_
                    have hB1465 : B_i_GoodTable_1 p_0 k91 () = .ret false := by simp only [B_i_GoodTable_1, hb16, hb21, hb23, hb159, hL90, cond_true, cond_false, loopE_done, loopE_ret]
                    have hL1464 : loopM (B_i_GoodTable_1 p_0) (p_0.Idxs.length - 0) 0 () = .ret false := hI136.symm.trans (loopM.ret hlt147 hB1465)
                    refine br ?_
                    refine tr ?_
                    refine rr rfl (.cons rfl .nil) ?_
                    have hM1466 : (i_GoodTable p_0) = (false) := by simp only [i_GoodTable, hb16, hb21, hb23, hb159, hL90, hL1464, cond_true, cond_false, loopE_done, loopE_ret]
                    rw [hM1466]
                    have q1467 := Ex.trans hf145 hE154
                    have q1468 := Below.only q1467 hO157 (by omega)
                    have q1469 := Ex.trans q1468 hE1432
                    exact ⟨rfl, q1469⟩
              · skip
                refine CW.seq ?_
                refine CW.region ?_
                refine SeqR.d1 rfl rfl rfl (yl_lss rfl rfl rfl ?_)
                refine SeqR.done ?_
                refine tn ?_
                refine CW.seq ?_
                refine CW.cond_f rfl (lt_f hlt147) ?_
                refine CW.exit ?_
                refine tx ?_
                refine tx ?_
                have hL1470 : loopM (B_i_GoodTable_1 p_0) (p_0.Idxs.length - 0) 0 () = .done () := hI136.symm.trans (loopM.stop hlt147)
                refine bx ?_
                refine tn ?_
                refine CW.seq ?_
                refine CW.region ?_
                refine SeqR.d1 rfl rfl rfl (yl_assign rfl rfl ?_)
                refine SeqR.done ?_
                refine tn ?_
                refine CW.ret ?_
                refine rr rfl (.cons rfl .nil) ?_
                have hM1471 : (i_GoodTable p_0) = (true) := by simp only [i_GoodTable, hb16, hb21, hb23, hL90, hL1470, cond_true, cond_false, loopE_done, loopE_ret]
                rw [hM1471]
                exact ⟨rfl, hf145⟩
    · skip
      refine SeqR.z rfl rfl rfl rfl rfl (not_f hb21) ?_
      refine SeqR.z rfl rfl rfl rfl rfl (not_f hb21) ?_
      refine SeqR.z rfl rfl rfl rfl rfl (not_f hb21) ?_
      refine SeqR.z rfl rfl rfl rfl rfl (not_f hb21) ?_
      refine SeqR.d1 rfl rfl rfl (yl_pick_t rfl rfl (not_f hb21) rfl ?_)
      refine SeqR.done ?_
      refine tn ?_
      refine CW.cond_t rfl rfl ?_
      refine CW.seq ?_
      refine CW.region ?_
      refine SeqR.d1 rfl rfl rfl (yl_assign rfl rfl ?_)
      refine SeqR.done ?_
      refine tn ?_
      refine CW.ret ?_
      refine tr ?_
      refine rr rfl (.cons rfl .nil) ?_
      have hM1472 : (i_GoodTable p_0) = (false) := by simp only [i_GoodTable, hb16, hb21, cond_true, cond_false, loopE_done, loopE_ret]
      rw [hM1472]
      have q1473 := Ex.trans (Ex.refl w) hE12
      have q1474 := Ex.trans q1473 hE15
      have q1475 := Ex.trans q1474 hE20
      exact ⟨rfl, q1475⟩
  · skip
    refine SeqR.z rfl rfl rfl rfl rfl (not_f hb16) ?_
    refine SeqR.z rfl rfl rfl rfl rfl (not_f hb16) ?_
    refine SeqR.z rfl rfl rfl rfl rfl (not_f hb16) ?_
    refine SeqR.z rfl rfl rfl rfl rfl (not_f hb16) ?_
    refine SeqR.z rfl rfl rfl rfl rfl (not_f hb16) ?_
    refine SeqR.d1 rfl rfl rfl (yl_pick_t rfl rfl (not_f hb16) rfl ?_)
    refine SeqR.d1 rfl rfl rfl (yl_move rfl rfl ?_)
    refine SeqR.z rfl rfl rfl rfl rfl rfl ?_
    refine SeqR.z rfl rfl rfl rfl rfl rfl ?_
    refine SeqR.z rfl rfl rfl rfl rfl rfl ?_
    refine SeqR.z rfl rfl rfl rfl rfl rfl ?_
    refine SeqR.d1 rfl rfl rfl (yl_pick_t rfl rfl rfl rfl ?_)
    refine SeqR.done ?_
    refine tn ?_
    refine CW.cond_t rfl rfl ?_
    refine CW.seq ?_
    refine CW.region ?_
    refine SeqR.d1 rfl rfl rfl (yl_assign rfl rfl ?_)
    refine SeqR.done ?_
    refine tn ?_
    refine CW.ret ?_
    refine tr ?_
    refine rr rfl (.cons rfl .nil) ?_
    have hM1476 : (i_GoodTable p_0) = (false) := by simp only [i_GoodTable, hb16, cond_true, cond_false, loopE_done, loopE_ret]
    rw [hM1476]
    have q1477 := Ex.trans (Ex.refl w) hE12
    have q1478 := Ex.trans q1477 hE15
    exact ⟨rfl, q1478⟩
set_option maxRecDepth 100000 in
set_option maxHeartbeats 2000000 in
theorem c_g_slices_IndexFunc_string {A1 : Option Addr} {c1 : Nat} {g3 : Nat} {cp4 : List Value} {w : World} (p_s : List Str) (p_f : Str → Bool) (h1 : RdS w (Iv 0 w.heap.size) (RF e_Str) 1 A1 p_s.length c1 p_s) (hen5 : Enters Try.prog g3) (hfn6 : ∀ (w1 : World) (y0 : Str), Ex w w1 → y0 ∈ p_s → okS y0 → Cal Try.prog g3 (([.string (bs (y0))] : List Value) ++ cp4).toArray w1 fun v w2 => v = .bool (p_f y0) ∧ Ex w1 w2) (o2 : (okL okS) p_s) : Cal Try.prog 211 #[.slice A1 p_s.length c1, .func (.func g3) #[] cp4.toArray] w fun v w' => v = .int .i64 ((g_slices_IndexFunc_string p_s p_f)) ∧ Ex w w' := by
  have hol7 := o2.1
  refine Cal.of (vs := [.slice A1 p_s.length c1, .func (.func g3) #[] cp4.toArray]) Try.func211 rfl Try.ntmps211 rfl ?_
  refine CW.seq ?_
  refine CW.region ?_
  refine SeqR.d1 rfl rfl rfl (yl_assign rfl rfl ?_)
  refine SeqR.done ?_
  refine tn ?_
  refine CW.seq ?_
  refine CW.seq ?_
  refine CW.region ?_
  refine SeqR.d1 rfl rfl rfl (yl_move rfl rfl ?_)
  refine SeqR.d1 rfl rfl rfl (yl_len Try.un22 rfl rfl ?_)
  refine SeqR.d1 rfl rfl rfl (yl_move rfl rfl ?_)
  refine SeqR.done ?_
  refine tn ?_
  refine CW.block ?_
  refine CW.loop (fun m9 L10 w11 => ∃ (k8 : Nat), m9 = p_s.length - k8 ∧ k8 ≤ p_s.length ∧ w.heap.size ≤ w11.heap.size ∧ lkp L10 0 = some (.slice A1 p_s.length c1) ∧ lkp L10 1 = some (.func (.func g3) #[] cp4.toArray) ∧ lkp L10 7 = some (.int .i64 ((p_s.length : Int))) ∧ lkp L10 8 = some (.int .i64 ((k8 : Int))) ∧ RdS w11 (Iv 0 w.heap.size) (RF e_Str) 1 A1 p_s.length c1 p_s ∧ Ex w w11 ∧ loopM (B_g_slices_IndexFunc_string_0 p_s p_f) (p_s.length - k8) k8 () = loopM (B_g_slices_IndexFunc_string_0 p_s p_f) (p_s.length - 0) 0 ()) (p_s.length - 0) ?_ ?_
  · exact ⟨0, rfl, (by omega), Nat.le_refl _, rfl, rfl, rfl, rfl, h1, (Ex.refl w), rfl⟩
  · rintro m12 L13 w14 ⟨k8, rfl, hk15, hsz17, hl18, hl19, hl20, hl21, hf22, hf23, hI16⟩
    refine CW.sub (Sub.cons hl18 (Sub.cons hl19 (Sub.cons hl20 (Sub.cons hl21 (Sub.nil _))))) ?_
    have hf23z := Ex.size hf23
    have hbg24 := RdS.big hf22
    rcases Nat.lt_or_ge k8 p_s.length with hlt25 | hlt25
    · skip
      refine CW.seq ?_
      refine CW.region ?_
      refine SeqR.d1 rfl rfl rfl (yl_lss rfl rfl rfl ?_)
      refine SeqR.done ?_
      refine tn ?_
      refine CW.seq ?_
      refine CW.cond_t rfl (lt_t hlt25) ?_
      refine CW.skip ?_
      refine tn ?_
      refine CW.seq ?_
      refine CW.block ?_
      refine CW.seq ?_
      refine CW.region ?_
      refine SeqR.d1 rfl rfl rfl (yl_move rfl rfl ?_)
      refine SeqR.d1 rfl rfl rfl (yl_assign rfl rfl ?_)
      refine SeqR.done ?_
      refine tn ?_
      refine CW.seq ?_
      refine CW.region ?_
      refine SeqR.d1 rfl rfl rfl (yl_move rfl rfl ?_)
      refine SeqR.d1 rfl rfl rfl (yl_move rfl rfl ?_)
      refine SeqR.d1 rfl rfl rfl (yl_move rfl rfl ?_)
      obtain ⟨eb26, eo26, ec26, eA26, eS26, ebl26, el26, eR26, eC26⟩ := RdS.atD hf22 d_Str (i := k8) (by first | omega | assumption)
      obtain rfl := eR26
      have eC26 : Cells w14 eb26 (eo26 + k8 * 1) [.string (bs ((p_s.getD k8 d_Str)))] := eC26
      refine SeqR.d1 rfl rfl rfl (yl_indexAddrN Try.un22 Try.ty9 rfl rfl rfl eA26 (by first | omega | assumption | (simp only [IntKind.wrap_i64] at *; omega)) ?_)
      refine SeqR.d1 rfl rfl rfl (yl_load1 Try.ty9 rfl rfl (eC26 0 _ rfl) ?_)
      refine SeqR.d1 rfl rfl rfl (yl_callv hen5 rfl rfl (opvs_cons rfl opvs_nil) (Cal.mono (hfn6 w14 (p_s.getD k8 d_Str) hf23 (getD_mem (by omega)) (okL.getD o2 ok_d_Str _)) ?_))
      rintro v28 w27 ⟨rfl, hE29⟩
      have hE29z := Ex.size hE29
      refine SeqR.done ?_
      refine tn ?_
      refine bcase (p_f (p_s.getD k8 d_Str)) (fun hb30 => ?_) (fun hb30 => ?_)
      · skip
        refine CW.cond_t rfl hb30 ?_
        refine CW.seq ?_
        refine CW.region ?_
        refine SeqR.d1 rfl rfl rfl (yl_move rfl rfl ?_)
        refine SeqR.d1 rfl rfl rfl (yl_assign rfl rfl ?_)
        refine SeqR.done ?_
        refine tn ?_
        refine CW.ret ?_
        refine br ?_
        refine tr ?_
        refine tr ?_
        have hB32 : B_g_slices_IndexFunc_string_0 p_s p_f k8 () = .ret (k8 : Int) := by simp only [B_g_slices_IndexFunc_string_0, hb30, cond_true, cond_false, loopE_done, loopE_ret]
        have hL31 : loopM (B_g_slices_IndexFunc_string_0 p_s p_f) (p_s.length - 0) 0 () = .ret (k8 : Int) := hI16.symm.trans (loopM.ret hlt25 hB32)
        refine br ?_
        refine tr ?_
        refine rr rfl (.cons rfl .nil) ?_
        have hM33 : (g_slices_IndexFunc_string p_s p_f) = ((k8 : Int)) := by simp only [g_slices_IndexFunc_string, hb30, hL31, cond_true, cond_false, loopE_done, loopE_ret]
        rw [hM33]
        have q34 := Ex.trans hf23 hE29
        exact ⟨rfl, q34⟩
      · skip
        refine CW.cond_f rfl hb30 ?_
        refine CW.skip ?_
        refine bn ?_
        refine tn ?_
        refine CW.region ?_
        refine SeqR.d1 rfl rfl rfl (yl_inc rfl rfl rfl (by omega) ?_)
        refine SeqR.d1 rfl rfl rfl (yl_move rfl rfl ?_)
        refine SeqR.done ?_
        refine tn ?_
        have hB35 : B_g_slices_IndexFunc_string_0 p_s p_f k8 () = .cont () := by simp only [B_g_slices_IndexFunc_string_0, hb30, cond_true, cond_false, loopE_done, loopE_ret]
        have q36 := RdS.ex good_Str hf22 hE29
        have q37 := Ex.trans hf23 hE29
        exact ⟨p_s.length - (k8 + 1), by omega, k8 + 1, rfl, hlt25, (by omega), rfl, rfl, rfl, rfl, q36, q37, (loopM.cont hlt25 hB35).symm.trans hI16⟩
    · skip
      refine CW.seq ?_
      refine CW.region ?_
      refine SeqR.d1 rfl rfl rfl (yl_lss rfl rfl rfl ?_)
      refine SeqR.done ?_
      refine tn ?_
      refine CW.seq ?_
      refine CW.cond_f rfl (lt_f hlt25) ?_
      refine CW.exit ?_
      refine tx ?_
      refine tx ?_
      have hL38 : loopM (B_g_slices_IndexFunc_string_0 p_s p_f) (p_s.length - 0) 0 () = .done () := hI16.symm.trans (loopM.stop hlt25)
      refine bx ?_
      refine tn ?_
      refine CW.seq ?_
      refine CW.region ?_
      refine SeqR.d1 rfl rfl rfl (yl_assign rfl rfl ?_)
      refine SeqR.done ?_
      refine tn ?_
      refine CW.ret ?_
      refine rr rfl (.cons rfl .nil) ?_
      have hM39 : (g_slices_IndexFunc_string p_s p_f) = (-1) := by simp only [g_slices_IndexFunc_string, hL38, cond_true, cond_false, loopE_done, loopE_ret]
      rw [hM39]
      exact ⟨rfl, hf23⟩
set_option maxRecDepth 100000 in
set_option maxHeartbeats 2000000 in
theorem c_g_slices_ContainsFunc_string {A1 : Option Addr} {c1 : Nat} {g3 : Nat} {cp4 : List Value} {w : World} (p_s : List Str) (p_f : Str → Bool) (h1 : RdS w (Iv 0 w.heap.size) (RF e_Str) 1 A1 p_s.length c1 p_s) (hen5 : Enters Try.prog g3) (hfn6 : ∀ (w1 : World) (y0 : Str), Ex w w1 → y0 ∈ p_s → okS y0 → Cal Try.prog g3 (([.string (bs (y0))] : List Value) ++ cp4).toArray w1 fun v w2 => v = .bool (p_f y0) ∧ Ex w1 w2) (o2 : (okL okS) p_s) : Cal Try.prog 187 #[.slice A1 p_s.length c1, .func (.func g3) #[] cp4.toArray] w fun v w' => v = .bool ((g_slices_ContainsFunc_string p_s p_f)) ∧ Ex w w' := by
  have hol7 := o2.1
  refine Cal.of (vs := [.slice A1 p_s.length c1, .func (.func g3) #[] cp4.toArray]) Try.func187 rfl Try.ntmps187 rfl ?_
  refine CW.seq ?_
  refine CW.region ?_
  refine SeqR.d1 rfl rfl rfl (yl_assign rfl rfl ?_)
  refine SeqR.done ?_
  refine tn ?_
  refine CW.seq ?_
  refine CW.region ?_
  refine SeqR.d1 rfl rfl rfl (yl_move rfl rfl ?_)
  refine SeqR.d1 rfl rfl rfl (yl_move rfl rfl ?_)
  refine SeqR.d1 rfl rfl rfl (yl_call Try.en211 rfl (opvs_cons rfl (opvs_cons rfl opvs_nil)) (Cal.mono (c_g_slices_IndexFunc_string p_s p_f (RdS.up h1 good_Str) hen5 (fun w1 y0 => fun hE => hfn6 w1 y0 (Ex.trans (Ex.refl w) hE)) o2) ?_))
  rintro v9 w8 ⟨rfl, hE10⟩
  have hE10z := Ex.size hE10
  refine SeqR.d1 rfl rfl rfl (yl_geq rfl rfl rfl ?_)
  refine SeqR.d1 rfl rfl rfl (yl_assign rfl rfl ?_)
  refine SeqR.done ?_
  refine tn ?_
  refine CW.ret ?_
  refine rr rfl (.cons rfl .nil) ?_
  have hM11 : (g_slices_ContainsFunc_string p_s p_f) = (decide (0 ≤ (g_slices_IndexFunc_string p_s p_f))) := by simp only [g_slices_ContainsFunc_string, cond_true, cond_false, loopE_done, loopE_ret]
  rw [hM11]
  have q12 := Ex.trans (Ex.refl w) hE10
  exact ⟨rfl, q12⟩
set_option maxRecDepth 100000 in
set_option maxHeartbeats 2000000 in
theorem c_i_isLowerOrDigit {w : World} (p_b : Int) : Cal Try.prog 212 #[.int .u8 (p_b)] w fun v w' => v = .bool ((i_isLowerOrDigit p_b)) ∧ Ex w w' := by
  refine Cal.of (vs := [.int .u8 (p_b)]) Try.func212 rfl Try.ntmps212 rfl ?_
  refine CW.seq ?_
  refine CW.region ?_
  refine SeqR.d1 rfl rfl rfl (yl_assign rfl rfl ?_)
  refine SeqR.done ?_
  refine tn ?_
  refine CW.seq ?_
  refine CW.region ?_
  refine SeqR.d1 rfl rfl rfl (yl_move rfl rfl ?_)
  refine SeqR.d1 rfl rfl rfl (yl_geq rfl rfl rfl ?_)
  refine SeqR.d1 rfl rfl rfl (yl_move rfl rfl ?_)
  refine bcase (decide (97 ≤ p_b)) (fun hb1 => ?_) (fun hb1 => ?_)
  · have hb1p := dec_t hb1
    refine SeqR.y rfl rfl rfl rfl rfl hb1 (yl_move rfl rfl ?_)
    refine SeqR.y rfl rfl rfl rfl rfl hb1 (yl_leq rfl rfl rfl ?_)
    refine SeqR.d1 rfl rfl rfl (yl_pick_t rfl rfl hb1 rfl ?_)
    refine SeqR.d1 rfl rfl rfl (yl_move rfl rfl ?_)
    refine bcase (decide (p_b ≤ 122)) (fun hb2 => ?_) (fun hb2 => ?_)
    · have hb2p := dec_t hb2
      refine SeqR.z rfl rfl rfl rfl rfl hb2 ?_
      refine SeqR.z rfl rfl rfl rfl rfl hb2 ?_
      refine SeqR.z rfl rfl rfl rfl rfl hb2 ?_
      refine SeqR.q rfl rfl rfl rfl rfl ?_
      refine SeqR.q rfl rfl rfl rfl rfl ?_
      refine SeqR.z rfl rfl rfl rfl rfl hb2 ?_
      refine SeqR.d1 rfl rfl rfl (yl_pick_t rfl rfl hb2 rfl ?_)
      refine SeqR.d1 rfl rfl rfl (yl_assign rfl rfl ?_)
      refine SeqR.done ?_
      refine tn ?_
      refine CW.ret ?_
      refine rr rfl (.cons rfl .nil) ?_
      have hM3 : (i_isLowerOrDigit p_b) = (true) := by simp only [i_isLowerOrDigit, hb1, hb2, cond_true, cond_false, loopE_done, loopE_ret]
      rw [hM3]
      exact ⟨rfl, (Ex.refl w)⟩
    · have hb2p := dec_f hb2
      refine SeqR.y rfl rfl rfl rfl rfl hb2 (yl_move rfl rfl ?_)
      refine SeqR.y rfl rfl rfl rfl rfl hb2 (yl_geq rfl rfl rfl ?_)
      refine SeqR.y rfl rfl rfl rfl rfl hb2 (yl_move rfl rfl ?_)
      refine bcase (decide (48 ≤ p_b)) (fun hb4 => ?_) (fun hb4 => ?_)
      · have hb4p := dec_t hb4
        refine SeqR.y rfl rfl rfl rfl rfl hb4 (yl_move rfl rfl ?_)
        refine SeqR.y rfl rfl rfl rfl rfl hb4 (yl_leq rfl rfl rfl ?_)
        refine SeqR.y rfl rfl rfl rfl rfl hb2 (yl_pick_t rfl rfl hb4 rfl ?_)
        refine SeqR.d1 rfl rfl rfl (yl_pick_f rfl rfl hb2 rfl ?_)
        refine SeqR.d1 rfl rfl rfl (yl_assign rfl rfl ?_)
        refine SeqR.done ?_
        refine tn ?_
        refine CW.ret ?_
        refine rr rfl (.cons rfl .nil) ?_
        have hM5 : (i_isLowerOrDigit p_b) = (decide (p_b ≤ 57)) := by simp only [i_isLowerOrDigit, hb1, hb2, hb4, cond_true, cond_false, loopE_done, loopE_ret]
        rw [hM5]
        exact ⟨rfl, (Ex.refl w)⟩
      · have hb4p := dec_f hb4
        refine SeqR.z rfl rfl rfl rfl rfl hb4 ?_
        refine SeqR.z rfl rfl rfl rfl rfl hb4 ?_
        refine SeqR.y rfl rfl rfl rfl rfl hb2 (yl_pick_f rfl rfl hb4 rfl ?_)
        refine SeqR.d1 rfl rfl rfl (yl_pick_f rfl rfl hb2 rfl ?_)
        refine SeqR.d1 rfl rfl rfl (yl_assign rfl rfl ?_)
        refine SeqR.done ?_
        refine tn ?_
        refine CW.ret ?_
        refine rr rfl (.cons rfl .nil) ?_
        have hM6 : (i_isLowerOrDigit p_b) = (false) := by simp only [i_isLowerOrDigit, hb1, hb2, hb4, cond_true, cond_false, loopE_done, loopE_ret]
        rw [hM6]
        exact ⟨rfl, (Ex.refl w)⟩
  · have hb1p := dec_f hb1
    refine SeqR.z rfl rfl rfl rfl rfl hb1 ?_
    refine SeqR.z rfl rfl rfl rfl rfl hb1 ?_
    refine SeqR.d1 rfl rfl rfl (yl_pick_f rfl rfl hb1 rfl ?_)
    refine SeqR.d1 rfl rfl rfl (yl_move rfl rfl ?_)
    refine SeqR.y rfl rfl rfl rfl rfl rfl (yl_move rfl rfl ?_)
    refine SeqR.y rfl rfl rfl rfl rfl rfl (yl_geq rfl rfl rfl ?_)
    refine SeqR.y rfl rfl rfl rfl rfl rfl (yl_move rfl rfl ?_)
    refine bcase (decide (48 ≤ p_b)) (fun hb7 => ?_) (fun hb7 => ?_)
    · have hb7p := dec_t hb7
      refine SeqR.y rfl rfl rfl rfl rfl hb7 (yl_move rfl rfl ?_)
      refine SeqR.y rfl rfl rfl rfl rfl hb7 (yl_leq rfl rfl rfl ?_)
      refine SeqR.y rfl rfl rfl rfl rfl rfl (yl_pick_t rfl rfl hb7 rfl ?_)
      refine SeqR.d1 rfl rfl rfl (yl_pick_f rfl rfl rfl rfl ?_)
      refine SeqR.d1 rfl rfl rfl (yl_assign rfl rfl ?_)
      refine SeqR.done ?_
      refine tn ?_
      refine CW.ret ?_
      refine rr rfl (.cons rfl .nil) ?_
      have hM8 : (i_isLowerOrDigit p_b) = (decide (p_b ≤ 57)) := by simp only [i_isLowerOrDigit, hb1, hb7, cond_true, cond_false, loopE_done, loopE_ret]
      rw [hM8]
      exact ⟨rfl, (Ex.refl w)⟩
    · have hb7p := dec_f hb7
      refine SeqR.z rfl rfl rfl rfl rfl hb7 ?_
      refine SeqR.z rfl rfl rfl rfl rfl hb7 ?_
      refine SeqR.y rfl rfl rfl rfl rfl rfl (yl_pick_f rfl rfl hb7 rfl ?_)
      refine SeqR.d1 rfl rfl rfl (yl_pick_f rfl rfl rfl rfl ?_)
      refine SeqR.d1 rfl rfl rfl (yl_assign rfl rfl ?_)
      refine SeqR.done ?_
      refine tn ?_
      refine CW.ret ?_
      refine rr rfl (.cons rfl .nil) ?_
      have hM9 : (i_isLowerOrDigit p_b) = (false) := by simp only [i_isLowerOrDigit, hb1, hb7, cond_true, cond_false, loopE_done, loopE_ret]
      rw [hM9]
      exact ⟨rfl, (Ex.refl w)⟩
set_option maxRecDepth 100000 in
set_option maxHeartbeats 2000000 in
theorem c_g_internal_stringslite_IndexByte {w : World} (p_s : Str) (p_c : Int) (o1 : okS p_s) : Cal Try.prog 222 #[.string (bs (p_s)), .int .u8 (p_c)] w fun v w' => v = .int .i64 ((g_internal_stringslite_IndexByte p_s p_c)) ∧ Ex w w' := by
  have hol2 : p_s.length ≤ 1073741824 := o1
  refine Cal.of (vs := [.string (bs (p_s)), .int .u8 (p_c)]) Try.func222 rfl Try.ntmps222 rfl ?_
  refine CW.seq ?_
  refine CW.region ?_
  refine SeqR.d1 rfl rfl rfl (yl_assign rfl rfl ?_)
  refine SeqR.done ?_
  refine tn ?_
  refine CW.seq ?_
  refine CW.region ?_
  refine SeqR.d1 rfl rfl rfl (yl_move rfl rfl ?_)
  refine SeqR.d1 rfl rfl rfl (yl_move rfl rfl ?_)
  refine SeqR.d1 rfl rfl rfl (yl_idxB (s := p_s) (c := p_c) Try.ex228 rfl (opvs_cons rfl (opvs_cons rfl opvs_nil)) ?_)
  refine SeqR.d1 rfl rfl rfl (yl_assign rfl rfl ?_)
  refine SeqR.done ?_
  refine tn ?_
  refine CW.ret ?_
  refine rr rfl (.cons rfl .nil) ?_
  have hM3 : (g_internal_stringslite_IndexByte p_s p_c) = (idxB p_s p_c) := by simp only [g_internal_stringslite_IndexByte, cond_true, cond_false, loopE_done, loopE_ret]
  rw [hM3]
  exact ⟨rfl, (Ex.refl w)⟩
set_option maxRecDepth 100000 in
set_option maxHeartbeats 2000000 in
theorem c_g_strings_IndexByte {w : World} (p_s : Str) (p_c : Int) (o1 : okS p_s) : Cal Try.prog 213 #[.string (bs (p_s)), .int .u8 (p_c)] w fun v w' => v = .int .i64 ((g_strings_IndexByte p_s p_c)) ∧ Ex w w' := by
  have hol2 : p_s.length ≤ 1073741824 := o1
  refine Cal.of (vs := [.string (bs (p_s)), .int .u8 (p_c)]) Try.func213 rfl Try.ntmps213 rfl ?_
  refine CW.seq ?_
  refine CW.region ?_
  refine SeqR.d1 rfl rfl rfl (yl_assign rfl rfl ?_)
  refine SeqR.done ?_
  refine tn ?_
  refine CW.seq ?_
  refine CW.region ?_
  refine SeqR.d1 rfl rfl rfl (yl_move rfl rfl ?_)
  refine SeqR.d1 rfl rfl rfl (yl_move rfl rfl ?_)
  refine SeqR.d1 rfl rfl rfl (yl_call Try.en222 rfl (opvs_cons rfl (opvs_cons rfl opvs_nil)) (Cal.mono (c_g_internal_stringslite_IndexByte p_s p_c o1) ?_))
  rintro v4 w3 ⟨rfl, hE5⟩
  have hE5z := Ex.size hE5
  refine SeqR.d1 rfl rfl rfl (yl_assign rfl rfl ?_)
  refine SeqR.done ?_
  refine tn ?_
  refine CW.ret ?_
  refine rr rfl (.cons rfl .nil) ?_
  have hM6 : (g_strings_IndexByte p_s p_c) = ((g_internal_stringslite_IndexByte p_s p_c)) := by simp only [g_strings_IndexByte, cond_true, cond_false, loopE_done, loopE_ret]
  rw [hM6]
  have q7 := Ex.trans (Ex.refl w) hE5
  exact ⟨rfl, q7⟩
set_option maxRecDepth 100000 in
set_option maxHeartbeats 2000000 in
theorem c_i_hasBytes {w : World} (p_s : Str) (p_others : Str) (o1 : okS p_s) (o2 : okS p_others) : Cal Try.prog 190 #[.string (bs (p_s)), .string (bs (p_others))] w fun v w' => v = .bool ((i_hasBytes p_s p_others)) ∧ Ex w w' := by
  have hol3 : p_s.length ≤ 1073741824 := o1
  have hol4 : p_others.length ≤ 1073741824 := o2
  refine Cal.of (vs := [.string (bs (p_s)), .string (bs (p_others))]) Try.func190 rfl Try.ntmps190 rfl ?_
  refine CW.seq ?_
  refine CW.region ?_
  refine SeqR.d1 rfl rfl rfl (yl_assign rfl rfl ?_)
  refine SeqR.done ?_
  refine tn ?_
  refine CW.seq ?_
  refine CW.seq ?_
  refine CW.region ?_
  refine SeqR.d1 rfl rfl rfl (yl_move rfl rfl ?_)
  refine SeqR.d1 rfl rfl rfl (yl_slen Try.un9 (a := p_s) rfl rfl ?_)
  refine SeqR.d1 rfl rfl rfl (yl_move rfl rfl ?_)
  refine SeqR.done ?_
  refine tn ?_
  refine CW.block ?_
  refine CW.loop (fun m6 L7 w8 => ∃ (k5 : Nat), m6 = p_s.length - k5 ∧ k5 ≤ p_s.length ∧ w.heap.size ≤ w8.heap.size ∧ lkp L7 0 = some (.string (bs (p_s))) ∧ lkp L7 1 = some (.string (bs (p_others))) ∧ lkp L7 7 = some (.int .i64 ((p_s.length : Int))) ∧ lkp L7 8 = some (.int .i64 ((k5 : Int))) ∧ Ex w w8 ∧ loopM (B_i_hasBytes_0 p_s p_others) (p_s.length - k5) k5 () = loopM (B_i_hasBytes_0 p_s p_others) (p_s.length - 0) 0 ()) (p_s.length - 0) ?_ ?_
  · exact ⟨0, rfl, (by omega), Nat.le_refl _, rfl, rfl, rfl, rfl, (Ex.refl w), rfl⟩
  · rintro m9 L10 w11 ⟨k5, rfl, hk12, hsz14, hl15, hl16, hl17, hl18, hf19, hI13⟩
    refine CW.sub (Sub.cons hl15 (Sub.cons hl16 (Sub.cons hl17 (Sub.cons hl18 (Sub.nil _))))) ?_
    have hf19z := Ex.size hf19
    have hbg20 : p_s.length ≤ 1073741824 := o1
    rcases Nat.lt_or_ge k5 p_s.length with hlt21 | hlt21
    · skip
      refine CW.seq ?_
      refine CW.region ?_
      refine SeqR.d1 rfl rfl rfl (yl_lss rfl rfl rfl ?_)
      refine SeqR.done ?_
      refine tn ?_
      refine CW.seq ?_
      refine CW.cond_t rfl (lt_t hlt21) ?_
      refine CW.skip ?_
      refine tn ?_
      refine CW.seq ?_
      refine CW.block ?_
      refine CW.seq ?_
      refine CW.region ?_
      refine SeqR.d1 rfl rfl rfl (yl_move rfl rfl ?_)
      refine SeqR.d1 rfl rfl rfl (yl_assign rfl rfl ?_)
      refine SeqR.done ?_
      refine tn ?_
      refine CW.seq ?_
      refine CW.region ?_
      refine SeqR.d1 rfl rfl rfl (yl_move rfl rfl ?_)
      refine SeqR.d1 rfl rfl rfl (yl_move rfl rfl ?_)
      refine SeqR.d1 rfl rfl rfl (yl_sindexN Try.un9 (a := p_s) rfl rfl rfl (by first | omega | assumption | (simp only [IntKind.wrap_i64] at *; omega)) ?_)
      refine SeqR.d1 rfl rfl rfl (yl_call Try.en212 rfl (opvs_cons rfl opvs_nil) (Cal.mono (c_i_isLowerOrDigit ((p_s.getD k5 0).toNat : Int)) ?_))
      rintro v23 w22 ⟨rfl, hE24⟩
      have hE24z := Ex.size hE24
      refine SeqR.d1 rfl rfl rfl (yl_not rfl rfl ?_)
      refine SeqR.d1 rfl rfl rfl (yl_move rfl rfl ?_)
      refine bcase (i_isLowerOrDigit ((p_s.getD k5 0).toNat : Int)) (fun hb25 => ?_) (fun hb25 => ?_)
      · skip
        refine SeqR.z rfl rfl rfl rfl rfl (not_t hb25) ?_
        refine SeqR.z rfl rfl rfl rfl rfl (not_t hb25) ?_
        refine SeqR.z rfl rfl rfl rfl rfl (not_t hb25) ?_
        refine SeqR.z rfl rfl rfl rfl rfl (not_t hb25) ?_
        refine SeqR.z rfl rfl rfl rfl rfl (not_t hb25) ?_
        refine SeqR.z rfl rfl rfl rfl rfl (not_t hb25) ?_
        refine SeqR.d1 rfl rfl rfl (yl_pick_f rfl rfl (not_t hb25) rfl ?_)
        refine SeqR.done ?_
        refine tn ?_
        refine CW.cond_f rfl rfl ?_
        refine CW.skip ?_
        refine bn ?_
        refine tn ?_
        refine CW.region ?_
        refine SeqR.d1 rfl rfl rfl (yl_inc rfl rfl rfl (by omega) ?_)
        refine SeqR.d1 rfl rfl rfl (yl_move rfl rfl ?_)
        refine SeqR.done ?_
        refine tn ?_
        have hB26 : B_i_hasBytes_0 p_s p_others k5 () = .cont () := by simp only [B_i_hasBytes_0, hb25, cond_true, cond_false, loopE_done, loopE_ret]
        have q27 := Ex.trans hf19 hE24
        exact ⟨p_s.length - (k5 + 1), by omega, k5 + 1, rfl, hlt21, (by omega), rfl, rfl, rfl, rfl, q27, (loopM.cont hlt21 hB26).symm.trans hI13⟩
      · skip
        refine SeqR.y rfl rfl rfl rfl rfl (not_f hb25) (yl_move rfl rfl ?_)
        refine SeqR.y rfl rfl rfl rfl rfl (not_f hb25) (yl_move rfl rfl ?_)
        refine SeqR.y rfl rfl rfl rfl rfl (not_f hb25) (yl_move rfl rfl ?_)
        refine SeqR.y rfl rfl rfl rfl rfl (not_f hb25) (yl_sindexN Try.un9 (a := p_s) rfl rfl rfl (by first | omega | assumption | (simp only [IntKind.wrap_i64] at *; omega)) ?_)
        refine SeqR.y rfl rfl rfl rfl rfl (not_f hb25) (yl_call Try.en213 rfl (opvs_cons rfl (opvs_cons rfl opvs_nil)) (Cal.mono (c_g_strings_IndexByte p_others ((p_s.getD k5 0).toNat : Int) o2) ?_))
        rintro v29 w28 ⟨rfl, hE30⟩
        have hE30z := Ex.size hE30
        refine SeqR.y rfl rfl rfl rfl rfl (not_f hb25) (yl_lss rfl rfl rfl ?_)
        refine SeqR.d1 rfl rfl rfl (yl_pick_t rfl rfl (not_f hb25) rfl ?_)
        refine SeqR.done ?_
        refine tn ?_
        refine bcase (decide ((g_strings_IndexByte p_others ((p_s.getD k5 0).toNat : Int)) < 0)) (fun hb31 => ?_) (fun hb31 => ?_)
        · have hb31p := dec_t hb31
          refine CW.cond_t rfl hb31 ?_
          refine CW.seq ?_
          refine CW.region ?_
          refine SeqR.d1 rfl rfl rfl (yl_assign rfl rfl ?_)
          refine SeqR.done ?_
          refine tn ?_
          refine CW.ret ?_
          refine br ?_
          refine tr ?_
          refine tr ?_
          have hB33 : B_i_hasBytes_0 p_s p_others k5 () = .ret false := by simp only [B_i_hasBytes_0, hb25, hb31, cond_true, cond_false, loopE_done, loopE_ret]
          have hL32 : loopM (B_i_hasBytes_0 p_s p_others) (p_s.length - 0) 0 () = .ret false := hI13.symm.trans (loopM.ret hlt21 hB33)
          refine br ?_
          refine tr ?_
          refine rr rfl (.cons rfl .nil) ?_
          have hM34 : (i_hasBytes p_s p_others) = (false) := by simp only [i_hasBytes, hb25, hb31, hL32, cond_true, cond_false, loopE_done, loopE_ret]
          rw [hM34]
          have q35 := Ex.trans hf19 hE24
          have q36 := Ex.trans q35 hE30
          exact ⟨rfl, q36⟩
        · have hb31p := dec_f hb31
          refine CW.cond_f rfl hb31 ?_
          refine CW.skip ?_
          refine bn ?_
          refine tn ?_
          refine CW.region ?_
          refine SeqR.d1 rfl rfl rfl (yl_inc rfl rfl rfl (by omega) ?_)
          refine SeqR.d1 rfl rfl rfl (yl_move rfl rfl ?_)
          refine SeqR.done ?_
          refine tn ?_
          have hB37 : B_i_hasBytes_0 p_s p_others k5 () = .cont () := by simp only [B_i_hasBytes_0, hb25, hb31, cond_true, cond_false, loopE_done, loopE_ret]
          have q38 := Ex.trans hf19 hE24
          have q39 := Ex.trans q38 hE30
          exact ⟨p_s.length - (k5 + 1), by omega, k5 + 1, rfl, hlt21, (by omega), rfl, rfl, rfl, rfl, q39, (loopM.cont hlt21 hB37).symm.trans hI13⟩
    · skip
      refine CW.seq ?_
      refine CW.region ?_
      refine SeqR.d1 rfl rfl rfl (yl_lss rfl rfl rfl ?_)
      refine SeqR.done ?_
      refine tn ?_
      refine CW.seq ?_
      refine CW.cond_f rfl (lt_f hlt21) ?_
      refine CW.exit ?_
      refine tx ?_
      refine tx ?_
      have hL40 : loopM (B_i_hasBytes_0 p_s p_others) (p_s.length - 0) 0 () = .done () := hI13.symm.trans (loopM.stop hlt21)
      refine bx ?_
      refine tn ?_
      refine CW.seq ?_
      refine CW.region ?_
      refine SeqR.d1 rfl rfl rfl (yl_assign rfl rfl ?_)
      refine SeqR.done ?_
      refine tn ?_
      refine CW.ret ?_
      refine rr rfl (.cons rfl .nil) ?_
      have hM41 : (i_hasBytes p_s p_others) = (true) := by simp only [i_hasBytes, hL40, cond_true, cond_false, loopE_done, loopE_ret]
      rw [hM41]
      exact ⟨rfl, hf19⟩
set_option maxRecDepth 100000 in
set_option maxHeartbeats 2000000 in
theorem c_i_isField {w : World} (p_s : Str) (o1 : okS p_s) : Cal Try.prog 150 #[.string (bs (p_s))] w fun v w' => v = .bool ((i_isField p_s)) ∧ Ex w w' := by
  have hol2 : p_s.length ≤ 1073741824 := o1
  refine Cal.of (vs := [.string (bs (p_s))]) Try.func150 rfl Try.ntmps150 rfl ?_
  refine CW.seq ?_
  refine CW.region ?_
  refine SeqR.d1 rfl rfl rfl (yl_assign rfl rfl ?_)
  refine SeqR.done ?_
  refine tn ?_
  refine CW.seq ?_
  refine CW.region ?_
  refine SeqR.d1 rfl rfl rfl (yl_move rfl rfl ?_)
  refine SeqR.d1 rfl rfl rfl (yl_slen Try.un9 (a := p_s) rfl rfl ?_)
  refine SeqR.d1 rfl rfl rfl (yl_call Try.en129 rfl (opvs_cons rfl (opvs_cons rfl (opvs_cons rfl opvs_nil))) (Cal.mono (c_i_within (p_s.length : Int) 1 3) ?_))
  rintro v4 w3 ⟨rfl, hE5⟩
  have hE5z := Ex.size hE5
  refine SeqR.d1 rfl rfl rfl (yl_move rfl rfl ?_)
  refine bcase (i_within (p_s.length : Int) 1 3) (fun hb6 => ?_) (fun hb6 => ?_)
  · have hb6p := f_within hb6
    refine SeqR.y rfl rfl rfl rfl rfl hb6 (yl_move rfl rfl ?_)
    refine SeqR.y rfl rfl rfl rfl rfl hb6 (yl_call Try.en190 rfl (opvs_cons rfl (opvs_cons rfl opvs_nil)) (Cal.mono (c_i_hasBytes p_s ([] : Str) o1 (okS.lit rfl)) ?_))
    rintro v8 w7 ⟨rfl, hE9⟩
    have hE9z := Ex.size hE9
    refine SeqR.d1 rfl rfl rfl (yl_pick_t rfl rfl hb6 rfl ?_)
    refine SeqR.d1 rfl rfl rfl (yl_assign rfl rfl ?_)
    refine SeqR.done ?_
    refine tn ?_
    refine CW.ret ?_
    refine rr rfl (.cons rfl .nil) ?_
    have hM10 : (i_isField p_s) = ((i_hasBytes p_s ([] : Str))) := by simp only [i_isField, hb6, cond_true, cond_false, loopE_done, loopE_ret]
    rw [hM10]
    have q11 := Ex.trans (Ex.refl w) hE5
    have q12 := Ex.trans q11 hE9
    exact ⟨rfl, q12⟩
  · skip
    refine SeqR.z rfl rfl rfl rfl rfl hb6 ?_
    refine SeqR.z rfl rfl rfl rfl rfl hb6 ?_
    refine SeqR.d1 rfl rfl rfl (yl_pick_f rfl rfl hb6 rfl ?_)
    refine SeqR.d1 rfl rfl rfl (yl_assign rfl rfl ?_)
    refine SeqR.done ?_
    refine tn ?_
    refine CW.ret ?_
    refine rr rfl (.cons rfl .nil) ?_
    have hM13 : (i_isField p_s) = (false) := by simp only [i_isField, hb6, cond_true, cond_false, loopE_done, loopE_ret]
    rw [hM13]
    have q14 := Ex.trans (Ex.refl w) hE5
    exact ⟨rfl, q14⟩
set_option maxRecDepth 100000 in
set_option maxHeartbeats 2000000 in
theorem c_i_Table_isRow_c1 {w : World} (p_s : Str) (o1 : okS p_s) : Cal Try.prog 188 #[.string (bs (p_s))] w fun v w' => v = .bool ((i_Table_isRow_c1 p_s)) ∧ Ex w w' := by
  have hol2 : p_s.length ≤ 1073741824 := o1
  refine Cal.of (vs := [.string (bs (p_s))]) Try.func188 rfl Try.ntmps188 rfl ?_
  refine CW.seq ?_
  refine CW.region ?_
  refine SeqR.d1 rfl rfl rfl (yl_assign rfl rfl ?_)
  refine SeqR.done ?_
  refine tn ?_
  refine CW.seq ?_
  refine CW.region ?_
  refine SeqR.d1 rfl rfl rfl (yl_move rfl rfl ?_)
  refine SeqR.d1 rfl rfl rfl (yl_call Try.en150 rfl (opvs_cons rfl opvs_nil) (Cal.mono (c_i_isField p_s o1) ?_))
  rintro v4 w3 ⟨rfl, hE5⟩
  have hE5z := Ex.size hE5
  refine SeqR.d1 rfl rfl rfl (yl_not rfl rfl ?_)
  refine SeqR.d1 rfl rfl rfl (yl_assign rfl rfl ?_)
  refine SeqR.done ?_
  refine tn ?_
  refine CW.ret ?_
  refine rr rfl (.cons rfl .nil) ?_
  have hM6 : (i_Table_isRow_c1 p_s) = (!(i_isField p_s)) := by simp only [i_Table_isRow_c1, cond_true, cond_false, loopE_done, loopE_ret]
  rw [hM6]
  have q7 := Ex.trans (Ex.refl w) hE5
  exact ⟨rfl, q7⟩
set_option maxRecDepth 100000 in
set_option maxHeartbeats 2000000 in
theorem c_i_Table_isRow {A1 : Option Addr} {c1 : Nat} {A2 : Option Addr} {c2 : Nat} {A4 : Option Addr} {c4 : Nat} {w : World} (p_t : DTable) (p_r : DRow) (h1 : RdS w (Iv 0 w.heap.size) (RF e_Str) 1 A1 p_t.Cols.length c1 p_t.Cols) (h2 : RdS w (Iv 0 w.heap.size) (RF e_Idx) 3 A2 p_t.Idxs.length c2 p_t.Idxs) (h4 : RdS w (Iv 0 w.heap.size) (RF e_Str) 1 A4 p_r.Vals.length c4 p_r.Vals) (o3 : ok_Table p_t) (o5 : ok_Row p_r) : Cal Try.prog 144 #[.agg #[.string (bs (p_t.Name)), .slice A1 p_t.Cols.length c1, .slice A2 p_t.Idxs.length c2], .agg #[.slice A4 p_r.Vals.length c4]] w fun v w' => v = .bool ((i_Table_isRow p_t p_r)) ∧ Ex w w' := by
  have hol6 : p_t.Name.length ≤ 1073741824 := o3.1
  have hol7 := o3.2.1.1
  have hol8 := o3.2.2.1
  have hol9 := o5.1
  refine Cal.of (vs := [.agg #[.string (bs (p_t.Name)), .slice A1 p_t.Cols.length c1, .slice A2 p_t.Idxs.length c2], .agg #[.slice A4 p_r.Vals.length c4]]) Try.func144 rfl Try.ntmps144 rfl ?_
  refine CW.seq ?_
  refine CW.region ?_
  refine SeqR.d1 rfl rfl rfl (yl_box (cs := [.string (bs (p_t.Name)), .slice A1 p_t.Cols.length c1, .slice A2 p_t.Idxs.length c2]) rfl rfl rfl ?_)
  intro b10 w11 hs12 hz13 hB14 hE15
  refine SeqR.d1 rfl rfl rfl (yl_box (cs := [.slice A4 p_r.Vals.length c4]) rfl rfl rfl ?_)
  intro b16 w17 hs18 hz19 hB20 hE21
  refine SeqR.d1 rfl rfl rfl (yl_assign rfl rfl ?_)
  refine SeqR.done ?_
  refine tn ?_
  refine CW.seq ?_
  refine CW.region ?_
  refine SeqR.d1 rfl rfl rfl (yl_fieldAddr Try.fd37_0 rfl rfl ?_)
  refine SeqR.d1 rfl rfl rfl (yl_load1 Try.ty22 rfl rfl ((hB20.cell 0).trans rfl) ?_)
  refine SeqR.d1 rfl rfl rfl (yl_len Try.un22 rfl rfl ?_)
  refine SeqR.d1 rfl rfl rfl (yl_fieldAddr Try.fd35_1 rfl rfl ?_)
  have q22 := Box.ex hB14 hE21
  refine SeqR.d1 rfl rfl rfl (yl_load1 Try.ty22 rfl rfl ((q22.cell 1).trans rfl) ?_)
  refine SeqR.d1 rfl rfl rfl (yl_len Try.un22 rfl rfl ?_)
  refine SeqR.d1 rfl rfl rfl (yl_eql rfl rfl rfl ?_)
  refine SeqR.d1 rfl rfl rfl (yl_move rfl rfl ?_)
  refine bcase (decide ((p_r.Vals.length : Int) = (p_t.Cols.length : Int))) (fun hb23 => ?_) (fun hb23 => ?_)
  · have hb23p := dec_t hb23
    refine SeqR.y rfl rfl rfl rfl rfl hb23 (yl_fieldAddr Try.fd37_0 rfl rfl ?_)
    refine SeqR.y rfl rfl rfl rfl rfl hb23 (yl_load1 Try.ty22 rfl rfl ((hB20.cell 0).trans rfl) ?_)
    have q24 := RdS.ex good_Str h4 hE15
    have q25 := RdS.ex good_Str q24 hE21
    refine SeqR.y rfl rfl rfl rfl rfl hb23 (yl_call Try.en187 rfl (opvs_cons rfl (opvs_cons rfl opvs_nil)) (Cal.mono (c_g_slices_ContainsFunc_string p_r.Vals (fun y0 => i_Table_isRow_c1 y0) (RdS.up q25 good_Str) Try.en188 (fun _ y0 => fun hE hm0 ov0 => c_i_Table_isRow_c1 y0 ov0) o5) ?_))
    rintro v27 w26 ⟨rfl, hE28⟩
    have hE28z := Ex.size hE28
    refine SeqR.y rfl rfl rfl rfl rfl hb23 (yl_not rfl rfl ?_)
    refine SeqR.d1 rfl rfl rfl (yl_pick_t rfl rfl hb23 rfl ?_)
    refine SeqR.d1 rfl rfl rfl (yl_assign rfl rfl ?_)
    refine SeqR.done ?_
    refine tn ?_
    refine CW.ret ?_
    refine rr rfl (.cons rfl .nil) ?_
    have hM29 : (i_Table_isRow p_t p_r) = (!(g_slices_ContainsFunc_string p_r.Vals (fun y0 => i_Table_isRow_c1 y0))) := by simp only [i_Table_isRow, hb23, cond_true, cond_false, loopE_done, loopE_ret]
    rw [hM29]
    have q30 := Ex.trans (Ex.refl w) hE15
    have q31 := Ex.trans q30 hE21
    have q32 := Ex.trans q31 hE28
    exact ⟨rfl, q32⟩
  · have hb23p := dec_f hb23
    refine SeqR.z rfl rfl rfl rfl rfl hb23 ?_
    refine SeqR.z rfl rfl rfl rfl rfl hb23 ?_
    refine SeqR.z rfl rfl rfl rfl rfl hb23 ?_
    refine SeqR.z rfl rfl rfl rfl rfl hb23 ?_
    refine SeqR.d1 rfl rfl rfl (yl_pick_f rfl rfl hb23 rfl ?_)
    refine SeqR.d1 rfl rfl rfl (yl_assign rfl rfl ?_)
    refine SeqR.done ?_
    refine tn ?_
    refine CW.ret ?_
    refine rr rfl (.cons rfl .nil) ?_
    have hM33 : (i_Table_isRow p_t p_r) = (false) := by simp only [i_Table_isRow, hb23, cond_true, cond_false, loopE_done, loopE_ret]
    rw [hM33]
    have q34 := Ex.trans (Ex.refl w) hE15
    have q35 := Ex.trans q34 hE21
    exact ⟨rfl, q35⟩
set_option maxRecDepth 100000 in
set_option maxHeartbeats 2000000 in
theorem c_i_GoodRow {A1 : Option Addr} {c1 : Nat} {A2 : Option Addr} {c2 : Nat} {A4 : Option Addr} {c4 : Nat} {w : World} (p_t : DTable) (p_r : DRow) (h1 : RdS w (Iv 0 w.heap.size) (RF e_Str) 1 A1 p_t.Cols.length c1 p_t.Cols) (h2 : RdS w (Iv 0 w.heap.size) (RF e_Idx) 3 A2 p_t.Idxs.length c2 p_t.Idxs) (h4 : RdS w (Iv 0 w.heap.size) (RF e_Str) 1 A4 p_r.Vals.length c4 p_r.Vals) (o3 : ok_Table p_t) (o5 : ok_Row p_r) : Cal Try.prog 89 #[.agg #[.string (bs (p_t.Name)), .slice A1 p_t.Cols.length c1, .slice A2 p_t.Idxs.length c2], .agg #[.slice A4 p_r.Vals.length c4]] w fun v w' => v = .bool ((i_GoodRow p_t p_r)) ∧ Ex w w' := by
  have hol6 : p_t.Name.length ≤ 1073741824 := o3.1
  have hol7 := o3.2.1.1
  have hol8 := o3.2.2.1
  have hol9 := o5.1
  refine Cal.of (vs := [.agg #[.string (bs (p_t.Name)), .slice A1 p_t.Cols.length c1, .slice A2 p_t.Idxs.length c2], .agg #[.slice A4 p_r.Vals.length c4]]) Try.func89 rfl Try.ntmps89 rfl ?_
  refine CW.seq ?_
  refine CW.region ?_
  refine SeqR.d1 rfl rfl rfl (yl_box (cs := [.string (bs (p_t.Name)), .slice A1 p_t.Cols.length c1, .slice A2 p_t.Idxs.length c2]) rfl rfl rfl ?_)
  intro b10 w11 hs12 hz13 hB14 hE15
  refine SeqR.d1 rfl rfl rfl (yl_box (cs := [.slice A4 p_r.Vals.length c4]) rfl rfl rfl ?_)
  intro b16 w17 hs18 hz19 hB20 hE21
  refine SeqR.d1 rfl rfl rfl (yl_assign rfl rfl ?_)
  refine SeqR.done ?_
  refine tn ?_
  refine CW.seq ?_
  refine CW.region ?_
  have q22 := Box.ex hB14 hE21
  refine SeqR.d1 rfl rfl rfl (yl_loadN (cs := [.string (bs (p_t.Name)), .slice A1 p_t.Cols.length c1, .slice A2 p_t.Idxs.length c2]) Try.ty35 rfl rfl (q22.cells (n := 3) rfl) rfl ?_)
  have q23 := RdS.ex good_Str h1 hE15
  have q24 := RdS.ex good_Str q23 hE21
  have q25 := RdS.ex good_Idx h2 hE15
  have q26 := RdS.ex good_Idx q25 hE21
  refine SeqR.d1 rfl rfl rfl (yl_call Try.en72 rfl (opvs_cons rfl opvs_nil) (Cal.mono (c_i_GoodTable p_t (RdS.up q24 good_Str) (RdS.up q26 good_Idx) o3) ?_))
  rintro v28 w27 ⟨rfl, hE29⟩
  have hE29z := Ex.size hE29
  refine SeqR.d1 rfl rfl rfl (yl_move rfl rfl ?_)
  refine bcase (i_GoodTable p_t) (fun hb30 => ?_) (fun hb30 => ?_)
  · have hb30p := f_i_GoodTable hb30
    have q31 := Box.ex q22 hE29
    refine SeqR.y rfl rfl rfl rfl rfl hb30 (yl_loadN (cs := [.string (bs (p_t.Name)), .slice A1 p_t.Cols.length c1, .slice A2 p_t.Idxs.length c2]) Try.ty35 rfl rfl (q31.cells (n := 3) rfl) rfl ?_)
    have q32 := Box.ex hB20 hE29
    refine SeqR.y rfl rfl rfl rfl rfl hb30 (yl_loadN (cs := [.slice A4 p_r.Vals.length c4]) Try.ty37 rfl rfl (q32.cells (n := 1) rfl) rfl ?_)
    have q33 := RdS.ex good_Str q24 hE29
    have q34 := RdS.ex good_Idx q26 hE29
    have q35 := RdS.ex good_Str h4 hE15
    have q36 := RdS.ex good_Str q35 hE21
    have q37 := RdS.ex good_Str q36 hE29
    refine SeqR.y rfl rfl rfl rfl rfl hb30 (yl_call Try.en144 rfl (opvs_cons rfl (opvs_cons rfl opvs_nil)) (Cal.mono (c_i_Table_isRow p_t p_r (RdS.up q33 good_Str) (RdS.up q34 good_Idx) (RdS.up q37 good_Str) o3 o5) ?_))
    rintro v39 w38 ⟨rfl, hE40⟩
    have hE40z := Ex.size hE40
    refine SeqR.d1 rfl rfl rfl (yl_pick_t rfl rfl hb30 rfl ?_)
    refine SeqR.d1 rfl rfl rfl (yl_assign rfl rfl ?_)
    refine SeqR.done ?_
    refine tn ?_
    refine CW.ret ?_
    refine rr rfl (.cons rfl .nil) ?_
    have hM41 : (i_GoodRow p_t p_r) = ((i_Table_isRow p_t p_r)) := by simp only [i_GoodRow, hb30, cond_true, cond_false, loopE_done, loopE_ret]
    rw [hM41]
    have q42 := Ex.trans (Ex.refl w) hE15
    have q43 := Ex.trans q42 hE21
    have q44 := Ex.trans q43 hE29
    have q45 := Ex.trans q44 hE40
    exact ⟨rfl, q45⟩
  · skip
    refine SeqR.z rfl rfl rfl rfl rfl hb30 ?_
    refine SeqR.z rfl rfl rfl rfl rfl hb30 ?_
    refine SeqR.z rfl rfl rfl rfl rfl hb30 ?_
    refine SeqR.d1 rfl rfl rfl (yl_pick_f rfl rfl hb30 rfl ?_)
    refine SeqR.d1 rfl rfl rfl (yl_assign rfl rfl ?_)
    refine SeqR.done ?_
    refine tn ?_
    refine CW.ret ?_
    refine rr rfl (.cons rfl .nil) ?_
    have hM46 : (i_GoodRow p_t p_r) = (false) := by simp only [i_GoodRow, hb30, cond_true, cond_false, loopE_done, loopE_ret]
    rw [hM46]
    have q47 := Ex.trans (Ex.refl w) hE15
    have q48 := Ex.trans q47 hE21
    have q49 := Ex.trans q48 hE29
    exact ⟨rfl, q49⟩
set_option maxRecDepth 100000 in
set_option maxHeartbeats 2000000 in
theorem c_g_slices_IndexFunc_Idx {A1 : Option Addr} {c1 : Nat} {g3 : Nat} {cp4 : List Value} {w : World} (p_s : List DIdx) (p_f : DIdx → Bool) (h1 : RdS w (Iv 0 w.heap.size) (RF e_Idx) 3 A1 p_s.length c1 p_s) (hen5 : Enters Try.prog g3) (hfn6 : ∀ (w1 : World) (y0 : DIdx), Ex w w1 → y0 ∈ p_s → ok_Idx y0 → Cal Try.prog g3 (([.agg #[.string (bs (y0.Name)), .int .i64 (y0.Col), .int .i64 (y0.Stage)]] : List Value) ++ cp4).toArray w1 fun v w2 => v = .bool (p_f y0) ∧ Ex w1 w2) (o2 : (okL ok_Idx) p_s) : Cal Try.prog 191 #[.slice A1 p_s.length c1, .func (.func g3) #[] cp4.toArray] w fun v w' => v = .int .i64 ((g_slices_IndexFunc_Idx p_s p_f)) ∧ Ex w w' := by
  have hol7 := o2.1
  refine Cal.of (vs := [.slice A1 p_s.length c1, .func (.func g3) #[] cp4.toArray]) Try.func191 rfl Try.ntmps191 rfl ?_
  refine CW.seq ?_
  refine CW.region ?_
  refine SeqR.d1 rfl rfl rfl (yl_assign rfl rfl ?_)
  refine SeqR.done ?_
  refine tn ?_
  refine CW.seq ?_
  refine CW.seq ?_
  refine CW.region ?_
  refine SeqR.d1 rfl rfl rfl (yl_move rfl rfl ?_)
  refine SeqR.d1 rfl rfl rfl (yl_len Try.un33 rfl rfl ?_)
  refine SeqR.d1 rfl rfl rfl (yl_move rfl rfl ?_)
  refine SeqR.done ?_
  refine tn ?_
  refine CW.block ?_
  refine CW.loop (fun m9 L10 w11 => ∃ (k8 : Nat), m9 = p_s.length - k8 ∧ k8 ≤ p_s.length ∧ w.heap.size ≤ w11.heap.size ∧ lkp L10 0 = some (.slice A1 p_s.length c1) ∧ lkp L10 1 = some (.func (.func g3) #[] cp4.toArray) ∧ lkp L10 7 = some (.int .i64 ((p_s.length : Int))) ∧ lkp L10 8 = some (.int .i64 ((k8 : Int))) ∧ RdS w11 (Iv 0 w.heap.size) (RF e_Idx) 3 A1 p_s.length c1 p_s ∧ Ex w w11 ∧ loopM (B_g_slices_IndexFunc_Idx_0 p_s p_f) (p_s.length - k8) k8 () = loopM (B_g_slices_IndexFunc_Idx_0 p_s p_f) (p_s.length - 0) 0 ()) (p_s.length - 0) ?_ ?_
  · exact ⟨0, rfl, (by omega), Nat.le_refl _, rfl, rfl, rfl, rfl, h1, (Ex.refl w), rfl⟩
  · rintro m12 L13 w14 ⟨k8, rfl, hk15, hsz17, hl18, hl19, hl20, hl21, hf22, hf23, hI16⟩
    refine CW.sub (Sub.cons hl18 (Sub.cons hl19 (Sub.cons hl20 (Sub.cons hl21 (Sub.nil _))))) ?_
    have hf23z := Ex.size hf23
    have hbg24 := RdS.big hf22
    rcases Nat.lt_or_ge k8 p_s.length with hlt25 | hlt25
    · skip
      refine CW.seq ?_
      refine CW.region ?_
      refine SeqR.d1 rfl rfl rfl (yl_lss rfl rfl rfl ?_)
      refine SeqR.done ?_
      refine tn ?_
      refine CW.seq ?_
      refine CW.cond_t rfl (lt_t hlt25) ?_
      refine CW.skip ?_
      refine tn ?_
      refine CW.seq ?_
      refine CW.block ?_
      refine CW.seq ?_
      refine CW.region ?_
      refine SeqR.d1 rfl rfl rfl (yl_move rfl rfl ?_)
      refine SeqR.d1 rfl rfl rfl (yl_assign rfl rfl ?_)
      refine SeqR.done ?_
      refine tn ?_
      refine CW.seq ?_
      refine CW.region ?_
      refine SeqR.d1 rfl rfl rfl (yl_move rfl rfl ?_)
      refine SeqR.d1 rfl rfl rfl (yl_move rfl rfl ?_)
      refine SeqR.d1 rfl rfl rfl (yl_move rfl rfl ?_)
      obtain ⟨eb26, eo26, ec26, eA26, eS26, ebl26, el26, eR26, eC26⟩ := RdS.atD hf22 d_Idx (i := k8) (by first | omega | assumption)
      obtain rfl := eR26
      have eC26 : Cells w14 eb26 (eo26 + k8 * 3) [.string (bs ((p_s.getD k8 d_Idx).Name)), .int .i64 ((p_s.getD k8 d_Idx).Col), .int .i64 ((p_s.getD k8 d_Idx).Stage)] := eC26
      refine SeqR.d1 rfl rfl rfl (yl_indexAddrN Try.un33 Try.ty132 rfl rfl rfl eA26 (by first | omega | assumption | (simp only [IntKind.wrap_i64] at *; omega)) ?_)
      refine SeqR.d1 rfl rfl rfl (yl_loadN (cs := [.string (bs ((p_s.getD k8 d_Idx).Name)), .int .i64 ((p_s.getD k8 d_Idx).Col), .int .i64 ((p_s.getD k8 d_Idx).Stage)]) Try.ty132 rfl rfl eC26 rfl ?_)
      refine SeqR.d1 rfl rfl rfl (yl_callv hen5 rfl rfl (opvs_cons rfl opvs_nil) (Cal.mono (hfn6 w14 (p_s.getD k8 d_Idx) hf23 (getD_mem (by omega)) (okL.getD o2 ok_d_Idx _)) ?_))
      rintro v28 w27 ⟨rfl, hE29⟩
      have hE29z := Ex.size hE29
      refine SeqR.done ?_
      refine tn ?_
      refine bcase (p_f (p_s.getD k8 d_Idx)) (fun hb30 => ?_) (fun hb30 => ?_)
      · skip
        refine CW.cond_t rfl hb30 ?_
        refine CW.seq ?_
        refine CW.region ?_
        refine SeqR.d1 rfl rfl rfl (yl_move rfl rfl ?_)
        refine SeqR.d1 rfl rfl rfl (yl_assign rfl rfl ?_)
        refine SeqR.done ?_
        refine tn ?_
        refine CW.ret ?_
        refine br ?_
        refine tr ?_
        refine tr ?_
        have hB32 : B_g_slices_IndexFunc_Idx_0 p_s p_f k8 () = .ret (k8 : Int) := by simp only [B_g_slices_IndexFunc_Idx_0, hb30, cond_true, cond_false, loopE_done, loopE_ret]
        have hL31 : loopM (B_g_slices_IndexFunc_Idx_0 p_s p_f) (p_s.length - 0) 0 () = .ret (k8 : Int) := hI16.symm.trans (loopM.ret hlt25 hB32)
        refine br ?_
        refine tr ?_
        refine rr rfl (.cons rfl .nil) ?_
        have hM33 : (g_slices_IndexFunc_Idx p_s p_f) = ((k8 : Int)) := by simp only [g_slices_IndexFunc_Idx, hb30, hL31, cond_true, cond_false, loopE_done, loopE_ret]
        rw [hM33]
        have q34 := Ex.trans hf23 hE29
        exact ⟨rfl, q34⟩
      · skip
        refine CW.cond_f rfl hb30 ?_
        refine CW.skip ?_
        refine bn ?_
        refine tn ?_
        refine CW.region ?_
        refine SeqR.d1 rfl rfl rfl (yl_inc rfl rfl rfl (by omega) ?_)
        refine SeqR.d1 rfl rfl rfl (yl_move rfl rfl ?_)
        refine SeqR.done ?_
        refine tn ?_
        have hB35 : B_g_slices_IndexFunc_Idx_0 p_s p_f k8 () = .cont () := by simp only [B_g_slices_IndexFunc_Idx_0, hb30, cond_true, cond_false, loopE_done, loopE_ret]
        have q36 := RdS.ex good_Idx hf22 hE29
        have q37 := Ex.trans hf23 hE29
        exact ⟨p_s.length - (k8 + 1), by omega, k8 + 1, rfl, hlt25, (by omega), rfl, rfl, rfl, rfl, q36, q37, (loopM.cont hlt25 hB35).symm.trans hI16⟩
    · skip
      refine CW.seq ?_
      refine CW.region ?_
      refine SeqR.d1 rfl rfl rfl (yl_lss rfl rfl rfl ?_)
      refine SeqR.done ?_
      refine tn ?_
      refine CW.seq ?_
      refine CW.cond_f rfl (lt_f hlt25) ?_
      refine CW.exit ?_
      refine tx ?_
      refine tx ?_
      have hL38 : loopM (B_g_slices_IndexFunc_Idx_0 p_s p_f) (p_s.length - 0) 0 () = .done () := hI16.symm.trans (loopM.stop hlt25)
      refine bx ?_
      refine tn ?_
      refine CW.seq ?_
      refine CW.region ?_
      refine SeqR.d1 rfl rfl rfl (yl_assign rfl rfl ?_)
      refine SeqR.done ?_
      refine tn ?_
      refine CW.ret ?_
      refine rr rfl (.cons rfl .nil) ?_
      have hM39 : (g_slices_IndexFunc_Idx p_s p_f) = (-1) := by simp only [g_slices_IndexFunc_Idx, hL38, cond_true, cond_false, loopE_done, loopE_ret]
      rw [hM39]
      exact ⟨rfl, hf23⟩
set_option maxRecDepth 100000 in
set_option maxHeartbeats 2000000 in
theorem c_i_Table_findIdx_c1 {b2 : Nat} {w : World} (p_x : DIdx) (p_cap0 : Str) (h3 : Box w b2 9 [.string (bs (p_cap0))]) (o1 : ok_Idx p_x) (o4 : okS p_cap0) : Cal Try.prog 192 #[.agg #[.string (bs (p_x.Name)), .int .i64 (p_x.Col), .int .i64 (p_x.Stage)], .pointer (some ⟨b2, 0, none⟩)] w fun v w' => v = .bool ((i_Table_findIdx_c1 p_x p_cap0)) ∧ Ex w w' := by
  have hol5 : p_x.Name.length ≤ 1073741824 := o1
  have hol6 : p_cap0.length ≤ 1073741824 := o4
  refine Cal.of (vs := [.agg #[.string (bs (p_x.Name)), .int .i64 (p_x.Col), .int .i64 (p_x.Stage)], .pointer (some ⟨b2, 0, none⟩)]) Try.func192 rfl Try.ntmps192 rfl ?_
  refine CW.seq ?_
  refine CW.region ?_
  refine SeqR.d1 rfl rfl rfl (yl_box (cs := [.string (bs (p_x.Name)), .int .i64 (p_x.Col), .int .i64 (p_x.Stage)]) rfl rfl rfl ?_)
  intro b7 w8 hs9 hz10 hB11 hE12
  refine SeqR.d1 rfl rfl rfl (yl_assign rfl rfl ?_)
  refine SeqR.done ?_
  refine tn ?_
  refine CW.seq ?_
  refine CW.region ?_
  refine SeqR.d1 rfl rfl rfl (yl_fieldAddr Try.fd132_0 rfl rfl ?_)
  refine SeqR.d1 rfl rfl rfl (yl_load1 Try.ty9 rfl rfl ((hB11.cell 0).trans rfl) ?_)
  have q13 := Box.ex h3 hE12
  refine SeqR.d1 rfl rfl rfl (yl_load1 Try.ty9 rfl rfl ((q13.cell 0).trans rfl) ?_)
  refine SeqR.d1 rfl rfl rfl (yl_seql (a := p_x.Name) (b := p_cap0) rfl rfl rfl ?_)
  refine SeqR.d1 rfl rfl rfl (yl_assign rfl rfl ?_)
  refine SeqR.done ?_
  refine tn ?_
  refine CW.ret ?_
  refine rr rfl (.cons rfl .nil) ?_
  have hM14 : (i_Table_findIdx_c1 p_x p_cap0) = (p_x.Name == p_cap0) := by simp only [i_Table_findIdx_c1, cond_true, cond_false, loopE_done, loopE_ret]
  rw [hM14]
  have q15 := Ex.trans (Ex.refl w) hE12
  exact ⟨rfl, q15⟩
set_option maxRecDepth 100000 in
set_option maxHeartbeats 2000000 in
theorem c_i_Table_findIdx {A1 : Option Addr} {c1 : Nat} {A2 : Option Addr} {c2 : Nat} {w : World} (p_t : DTable) (p_name : Str) (h1 : RdS w (Iv 0 w.heap.size) (RF e_Str) 1 A1 p_t.Cols.length c1 p_t.Cols) (h2 : RdS w (Iv 0 w.heap.size) (RF e_Idx) 3 A2 p_t.Idxs.length c2 p_t.Idxs) (o3 : ok_Table p_t) (o4 : okS p_name) : Cal Try.prog 151 #[.agg #[.string (bs (p_t.Name)), .slice A1 p_t.Cols.length c1, .slice A2 p_t.Idxs.length c2], .string (bs (p_name))] w fun v w' => v = .int .i64 ((i_Table_findIdx p_t p_name)) ∧ Ex w w' := by
  have hol5 : p_t.Name.length ≤ 1073741824 := o3.1
  have hol6 := o3.2.1.1
  have hol7 := o3.2.2.1
  have hol8 : p_name.length ≤ 1073741824 := o4
  refine Cal.of (vs := [.agg #[.string (bs (p_t.Name)), .slice A1 p_t.Cols.length c1, .slice A2 p_t.Idxs.length c2], .string (bs (p_name))]) Try.func151 rfl Try.ntmps151 rfl ?_
  refine CW.seq ?_
  refine CW.region ?_
  refine SeqR.d1 rfl rfl rfl (yl_box (cs := [.string (bs (p_t.Name)), .slice A1 p_t.Cols.length c1, .slice A2 p_t.Idxs.length c2]) rfl rfl rfl ?_)
  intro b9 w10 hs11 hz12 hB13 hE14
  refine SeqR.d1 rfl rfl rfl (yl_box (cs := [.string (bs (p_name))]) rfl rfl rfl ?_)
  intro b15 w16 hs17 hz18 hB19 hE20
  refine SeqR.d1 rfl rfl rfl (yl_assign rfl rfl ?_)
  refine SeqR.done ?_
  refine tn ?_
  refine CW.seq ?_
  refine CW.region ?_
  refine SeqR.d1 rfl rfl rfl (yl_fieldAddr Try.fd35_2 rfl rfl ?_)
  have q21 := Box.ex hB13 hE20
  refine SeqR.d1 rfl rfl rfl (yl_load1 Try.ty33 rfl rfl ((q21.cell 2).trans rfl) ?_)
  refine SeqR.d1 rfl rfl rfl (yl_makeFunc rfl (opvs_cons rfl opvs_nil) ?_)
  have q22 := RdS.ex good_Idx h2 hE14
  have q23 := RdS.ex good_Idx q22 hE20
  refine SeqR.d1 rfl rfl rfl (yl_call Try.en191 rfl (opvs_cons rfl (opvs_cons rfl opvs_nil)) (Cal.mono (c_g_slices_IndexFunc_Idx p_t.Idxs (fun y0 => i_Table_findIdx_c1 y0 p_name) (RdS.up q23 good_Idx) Try.en192 (fun _ y0 => fun hE hm0 ov0 => c_i_Table_findIdx_c1 y0 p_name (Box.ex hB19 hE) ov0 o4) o3.2.2) ?_))
  rintro v25 w24 ⟨rfl, hE26⟩
  have hE26z := Ex.size hE26
  refine SeqR.d1 rfl rfl rfl (yl_assign rfl rfl ?_)
  refine SeqR.done ?_
  refine tn ?_
  refine CW.ret ?_
  refine rr rfl (.cons rfl .nil) ?_
  have hM27 : (i_Table_findIdx p_t p_name) = ((g_slices_IndexFunc_Idx p_t.Idxs (fun y0 => i_Table_findIdx_c1 y0 p_name))) := by simp only [i_Table_findIdx, cond_true, cond_false, loopE_done, loopE_ret]
  rw [hM27]
  have q28 := Ex.trans (Ex.refl w) hE14
  have q29 := Ex.trans q28 hE20
  have q30 := Ex.trans q29 hE26
  exact ⟨rfl, q30⟩
set_option maxRecDepth 100000 in
set_option maxHeartbeats 2000000 in
theorem c_i_hasIdx {A1 : Option Addr} {c1 : Nat} {A2 : Option Addr} {c2 : Nat} {w : World} (p_t : DTable) (p_name : Str) (h1 : RdS w (Iv 0 w.heap.size) (RF e_Str) 1 A1 p_t.Cols.length c1 p_t.Cols) (h2 : RdS w (Iv 0 w.heap.size) (RF e_Idx) 3 A2 p_t.Idxs.length c2 p_t.Idxs) (o3 : ok_Table p_t) (o4 : okS p_name) : Cal Try.prog 90 #[.agg #[.string (bs (p_t.Name)), .slice A1 p_t.Cols.length c1, .slice A2 p_t.Idxs.length c2], .string (bs (p_name))] w fun v w' => v = .bool ((i_hasIdx p_t p_name)) ∧ Ex w w' := by
  have hol5 : p_t.Name.length ≤ 1073741824 := o3.1
  have hol6 := o3.2.1.1
  have hol7 := o3.2.2.1
  have hol8 : p_name.length ≤ 1073741824 := o4
  refine Cal.of (vs := [.agg #[.string (bs (p_t.Name)), .slice A1 p_t.Cols.length c1, .slice A2 p_t.Idxs.length c2], .string (bs (p_name))]) Try.func90 rfl Try.ntmps90 rfl ?_
  refine CW.seq ?_
  refine CW.region ?_
  refine SeqR.d1 rfl rfl rfl (yl_box (cs := [.string (bs (p_t.Name)), .slice A1 p_t.Cols.length c1, .slice A2 p_t.Idxs.length c2]) rfl rfl rfl ?_)
  intro b9 w10 hs11 hz12 hB13 hE14
  refine SeqR.d1 rfl rfl rfl (yl_assign rfl rfl ?_)
  refine SeqR.done ?_
  refine tn ?_
  refine CW.seq ?_
  refine CW.region ?_
  refine SeqR.d1 rfl rfl rfl (yl_loadN (cs := [.string (bs (p_t.Name)), .slice A1 p_t.Cols.length c1, .slice A2 p_t.Idxs.length c2]) Try.ty35 rfl rfl (hB13.cells (n := 3) rfl) rfl ?_)
  have q15 := RdS.ex good_Str h1 hE14
  have q16 := RdS.ex good_Idx h2 hE14
  refine SeqR.d1 rfl rfl rfl (yl_call Try.en72 rfl (opvs_cons rfl opvs_nil) (Cal.mono (c_i_GoodTable p_t (RdS.up q15 good_Str) (RdS.up q16 good_Idx) o3) ?_))
  rintro v18 w17 ⟨rfl, hE19⟩
  have hE19z := Ex.size hE19
  refine SeqR.d1 rfl rfl rfl (yl_move rfl rfl ?_)
  refine bcase (i_GoodTable p_t) (fun hb20 => ?_) (fun hb20 => ?_)
  · have hb20p := f_i_GoodTable hb20
    have q21 := Box.ex hB13 hE19
    refine SeqR.y rfl rfl rfl rfl rfl hb20 (yl_loadN (cs := [.string (bs (p_t.Name)), .slice A1 p_t.Cols.length c1, .slice A2 p_t.Idxs.length c2]) Try.ty35 rfl rfl (q21.cells (n := 3) rfl) rfl ?_)
    refine SeqR.y rfl rfl rfl rfl rfl hb20 (yl_move rfl rfl ?_)
    have q22 := RdS.ex good_Str q15 hE19
    have q23 := RdS.ex good_Idx q16 hE19
    refine SeqR.y rfl rfl rfl rfl rfl hb20 (yl_call Try.en151 rfl (opvs_cons rfl (opvs_cons rfl opvs_nil)) (Cal.mono (c_i_Table_findIdx p_t p_name (RdS.up q22 good_Str) (RdS.up q23 good_Idx) o3 o4) ?_))
    rintro v25 w24 ⟨rfl, hE26⟩
    have hE26z := Ex.size hE26
    have hrf27 := rf_i_findIdx p_t p_name
    refine SeqR.y rfl rfl rfl rfl rfl hb20 (yl_geq rfl rfl rfl ?_)
    refine SeqR.d1 rfl rfl rfl (yl_pick_t rfl rfl hb20 rfl ?_)
    refine SeqR.d1 rfl rfl rfl (yl_assign rfl rfl ?_)
    refine SeqR.done ?_
    refine tn ?_
    refine CW.ret ?_
    refine rr rfl (.cons rfl .nil) ?_
    have hM28 : (i_hasIdx p_t p_name) = (decide (0 ≤ (i_Table_findIdx p_t p_name))) := by simp only [i_hasIdx, hb20, cond_true, cond_false, loopE_done, loopE_ret]
    rw [hM28]
    have q29 := Ex.trans (Ex.refl w) hE14
    have q30 := Ex.trans q29 hE19
    have q31 := Ex.trans q30 hE26
    exact ⟨rfl, q31⟩
  · skip
    refine SeqR.z rfl rfl rfl rfl rfl hb20 ?_
    refine SeqR.z rfl rfl rfl rfl rfl hb20 ?_
    refine SeqR.z rfl rfl rfl rfl rfl hb20 ?_
    refine SeqR.z rfl rfl rfl rfl rfl hb20 ?_
    refine SeqR.d1 rfl rfl rfl (yl_pick_f rfl rfl hb20 rfl ?_)
    refine SeqR.d1 rfl rfl rfl (yl_assign rfl rfl ?_)
    refine SeqR.done ?_
    refine tn ?_
    refine CW.ret ?_
    refine rr rfl (.cons rfl .nil) ?_
    have hM32 : (i_hasIdx p_t p_name) = (false) := by simp only [i_hasIdx, hb20, cond_true, cond_false, loopE_done, loopE_ret]
    rw [hM32]
    have q33 := Ex.trans (Ex.refl w) hE14
    have q34 := Ex.trans q33 hE19
    exact ⟨rfl, q34⟩
set_option maxRecDepth 100000 in
set_option maxHeartbeats 2000000 in
theorem c_i_Table_idxHead {A1 : Option Addr} {c1 : Nat} {A2 : Option Addr} {c2 : Nat} {w : World} (p_t : DTable) (p_name : Str) (h1 : RdS w (Iv 0 w.heap.size) (RF e_Str) 1 A1 p_t.Cols.length c1 p_t.Cols) (h2 : RdS w (Iv 0 w.heap.size) (RF e_Idx) 3 A2 p_t.Idxs.length c2 p_t.Idxs) (o3 : ok_Table p_t) (o4 : okS p_name) : Cal Try.prog 160 #[.agg #[.string (bs (p_t.Name)), .slice A1 p_t.Cols.length c1, .slice A2 p_t.Idxs.length c2], .string (bs (p_name))] w fun v w' => v = .string (bs ((i_Table_idxHead p_t p_name))) ∧ Ex w w' := by
  have hol5 : p_t.Name.length ≤ 1073741824 := o3.1
  have hol6 := o3.2.1.1
  have hol7 := o3.2.2.1
  have hol8 : p_name.length ≤ 1073741824 := o4
  refine Cal.of (vs := [.agg #[.string (bs (p_t.Name)), .slice A1 p_t.Cols.length c1, .slice A2 p_t.Idxs.length c2], .string (bs (p_name))]) Try.func160 rfl Try.ntmps160 rfl ?_
  refine CW.seq ?_
  refine CW.region ?_
  refine SeqR.d1 rfl rfl rfl (yl_box (cs := [.string (bs (p_t.Name)), .slice A1 p_t.Cols.length c1, .slice A2 p_t.Idxs.length c2]) rfl rfl rfl ?_)
  intro b9 w10 hs11 hz12 hB13 hE14
  refine SeqR.d1 rfl rfl rfl (yl_assign rfl rfl ?_)
  refine SeqR.done ?_
  refine tn ?_
  refine CW.seq ?_
  refine CW.region ?_
  refine SeqR.d1 rfl rfl rfl (yl_fieldAddr Try.fd35_0 rfl rfl ?_)
  refine SeqR.d1 rfl rfl rfl (yl_load1 Try.ty9 rfl rfl ((hB13.cell 0).trans rfl) ?_)
  have hol15 : p_t.Name.length ≤ 1073741824 := o3.1
  refine SeqR.d1 rfl rfl rfl (yl_sadd (a := p_t.Name) (b := ([46] : Str)) rfl rfl rfl (by first | omega | (simp only [List.length_append, List.length_cons, List.length_nil, List.length_take, List.length_drop]; omega)) ?_)
  refine SeqR.d1 rfl rfl rfl (yl_move rfl rfl ?_)
  have hol16 : p_t.Name.length ≤ 1073741824 := o3.1
  have hol17 : p_name.length ≤ 1073741824 := o4
  refine SeqR.d1 rfl rfl rfl (yl_sadd (a := (p_t.Name ++ ([46] : Str))) (b := p_name) rfl rfl rfl (by first | omega | (simp only [List.length_append, List.length_cons, List.length_nil, List.length_take, List.length_drop]; omega)) ?_)
  have hol18 : p_t.Name.length ≤ 1073741824 := o3.1
  have hol19 : p_name.length ≤ 1073741824 := o4
  refine SeqR.d1 rfl rfl rfl (yl_sadd (a := ((p_t.Name ++ ([46] : Str)) ++ p_name)) (b := ([47] : Str)) rfl rfl rfl (by first | omega | (simp only [List.length_append, List.length_cons, List.length_nil, List.length_take, List.length_drop]; omega)) ?_)
  refine SeqR.d1 rfl rfl rfl (yl_assign rfl rfl ?_)
  refine SeqR.done ?_
  refine tn ?_
  refine CW.ret ?_
  refine rr rfl (.cons rfl .nil) ?_
  have hM20 : (i_Table_idxHead p_t p_name) = (((p_t.Name ++ ([46] : Str)) ++ p_name) ++ ([47] : Str)) := by simp only [i_Table_idxHead, cond_true, cond_false, loopE_done, loopE_ret]
  rw [hM20]
  have q21 := Ex.trans (Ex.refl w) hE14
  exact ⟨rfl, q21⟩
set_option maxRecDepth 100000 in
set_option maxHeartbeats 2000000 in
theorem c_i_Table_idx {A1 : Option Addr} {c1 : Nat} {A2 : Option Addr} {c2 : Nat} {w : World} (p_t : DTable) (p_name : Str) (h1 : RdS w (Iv 0 w.heap.size) (RF e_Str) 1 A1 p_t.Cols.length c1 p_t.Cols) (h2 : RdS w (Iv 0 w.heap.size) (RF e_Idx) 3 A2 p_t.Idxs.length c2 p_t.Idxs) (o3 : ok_Table p_t) (o4 : okS p_name) (pre0 : (0 ≤ i_Table_findIdx p_t p_name ∧ i_Table_findIdx p_t p_name < (p_t.Idxs.length : Int))) : Cal Try.prog 161 #[.agg #[.string (bs (p_t.Name)), .slice A1 p_t.Cols.length c1, .slice A2 p_t.Idxs.length c2], .string (bs (p_name))] w fun v w' => v = .agg #[.string (bs ((i_Table_idx p_t p_name).Name)), .int .i64 ((i_Table_idx p_t p_name).Col), .int .i64 ((i_Table_idx p_t p_name).Stage)] ∧ ok_Idx (i_Table_idx p_t p_name) ∧ Ex w w' := by
  have hol5 : p_t.Name.length ≤ 1073741824 := o3.1
  have hol6 := o3.2.1.1
  have hol7 := o3.2.2.1
  have hol8 : p_name.length ≤ 1073741824 := o4
  refine Cal.of (vs := [.agg #[.string (bs (p_t.Name)), .slice A1 p_t.Cols.length c1, .slice A2 p_t.Idxs.length c2], .string (bs (p_name))]) Try.func161 rfl Try.ntmps161 rfl ?_
  refine CW.seq ?_
  refine CW.region ?_
  refine SeqR.d1 rfl rfl rfl (yl_box (cs := [.string (bs (p_t.Name)), .slice A1 p_t.Cols.length c1, .slice A2 p_t.Idxs.length c2]) rfl rfl rfl ?_)
  intro b9 w10 hs11 hz12 hB13 hE14
  refine SeqR.d1 rfl rfl rfl (yl_alloc Try.ty132 (cs := [.string (bs (([] : Str))), .int .i64 (0), .int .i64 (0)]) rfl rfl ?_)
  intro b15 w16 hs17 hz18 hB19 hE20
  refine SeqR.done ?_
  refine tn ?_
  refine CW.seq ?_
  have q21 := Box.ex hB13 hE20
  have q22 := RdS.ex good_Str h1 hE14
  have q23 := RdS.ex good_Str q22 hE20
  have q24 := RdS.ex good_Idx h2 hE14
  have q25 := RdS.ex good_Idx q24 hE20
  have hrf27 := rf_i_findIdx p_t p_name
  refine CW.drawsI 5 (vgetI [DetI (.pointer (some ⟨b9, 0 + 2, none⟩)), DetI (.slice A2 p_t.Idxs.length c2), DetI (.agg #[.string (bs (p_t.Name)), .slice A1 p_t.Cols.length c1, .slice A2 p_t.Idxs.length c2]), DetI (.string (bs (p_name))), DetI (.int .i64 ((i_Table_findIdx p_t p_name)))]) Try.follows rfl rfl rfl rfl rfl rfl (vgetI_stable ⟨StableI.det _, StableI.det _, StableI.det _, StableI.det _, StableI.det _, trivial⟩) ⟨?_, ?_, ?_, ?_, ?_, trivial⟩ ?_
  · intro L28 w29 hi30
    have hE31 := hi30.ex
    have hE31z := Ex.size hE31
    have hx32 := hi30.old 2 _ rfl rfl
    exact OpR.op' rfl (Yl.sameI (yl_fieldAddr Try.fd35_2 rfl hx32 ⟨fun _ _ => rfl, rfl⟩))
  · intro L33 w34 hi35
    have hE36 := hi35.ex
    have hE36z := Ex.size hE36
    obtain ⟨_, _, _, hx37, -, -, -, rfl⟩ := hi35.dep 0 5 rfl rfl
    have q38 := Box.ex q21 hE36
    exact OpR.op' rfl (Yl.sameI (yl_load1 Try.ty33 rfl hx37 ((q38.cell 2).trans rfl) ⟨fun _ _ => rfl, rfl⟩))
  · intro L39 w40 hi41
    have hE42 := hi41.ex
    have hE42z := Ex.size hE42
    have hx43 := hi41.old 2 _ rfl rfl
    have q44 := Box.ex q21 hE42
    exact OpR.op' rfl (Yl.sameI (yl_loadN (cs := [.string (bs (p_t.Name)), .slice A1 p_t.Cols.length c1, .slice A2 p_t.Idxs.length c2]) Try.ty35 rfl hx43 (q44.cells (n := 3) rfl) rfl ⟨fun _ _ => rfl, rfl⟩))
  · intro L45 w46 hi47
    have hE48 := hi47.ex
    have hE48z := Ex.size hE48
    have hx49 := hi47.old 1 _ rfl rfl
    exact OpR.op' rfl (Yl.sameI (yl_move rfl hx49 ⟨fun _ _ => rfl, rfl⟩))
  · intro L50 w51 hi52
    have hE53 := hi52.ex
    have hE53z := Ex.size hE53
    obtain ⟨_, _, _, hx54, -, -, -, rfl⟩ := hi52.dep 2 7 rfl rfl
    obtain ⟨_, _, _, hx55, -, -, -, rfl⟩ := hi52.dep 3 8 rfl rfl
    have q56 := RdS.ex good_Str q23 hE53
    have q57 := RdS.ex good_Idx q25 hE53
    refine OpR.op' rfl (yl_call Try.en151 rfl (opvs_cons hx54 (opvs_cons hx55 opvs_nil)) (Cal.mono (c_i_Table_findIdx p_t p_name (RdS.up q56 good_Str) (RdS.up q57 good_Idx) o3 o4) ?_))
    rintro v59 w58 ⟨rfl, hE60⟩
    exact ⟨rfl, hE60⟩
  · intro fl64 fh65 L61 w62 hp63
    have hE66 := hp63.ex
    have hE66z := Ex.size hE66
    have hx67 := hp63.old 4 _ rfl rfl
    obtain ⟨_, hx68, rfl⟩ := hp63.new 1 6 rfl rfl
    obtain ⟨_, hx69, rfl⟩ := hp63.new 4 9 rfl rfl
    have q70 := RdS.ex good_Idx q25 hE66
    obtain ⟨eb71, eo71, ec71, eA71, eS71, ebl71, el71, eR71, eC71⟩ := RdS.atD q70 d_Idx (i := ((i_Table_findIdx p_t p_name)).toNat) (by first | omega | assumption | (simp only [IntKind.wrap_i64] at *; omega))
    obtain rfl := eR71
    have eC71 : Cells w62 eb71 (eo71 + (((i_Table_findIdx p_t p_name)).toNat) * 3) [.string (bs ((p_t.Idxs.getD (((i_Table_findIdx p_t p_name)).toNat) d_Idx).Name)), .int .i64 ((p_t.Idxs.getD (((i_Table_findIdx p_t p_name)).toNat) d_Idx).Col), .int .i64 ((p_t.Idxs.getD (((i_Table_findIdx p_t p_name)).toNat) d_Idx).Stage)] := eC71
    refine SeqR.d1 rfl rfl rfl (yl_indexAddr Try.un33 Try.ty132 rfl hx68 hx69 eA71 (by first | omega | assumption | (simp only [IntKind.wrap_i64] at *; omega)) (by first | omega | assumption | (simp only [IntKind.wrap_i64] at *; omega)) ?_)
    refine SeqR.d1 rfl rfl rfl (yl_loadN (cs := [.string (bs ((p_t.Idxs.getD (((i_Table_findIdx p_t p_name)).toNat) d_Idx).Name)), .int .i64 ((p_t.Idxs.getD (((i_Table_findIdx p_t p_name)).toNat) d_Idx).Col), .int .i64 ((p_t.Idxs.getD (((i_Table_findIdx p_t p_name)).toNat) d_Idx).Stage)]) Try.ty132 rfl rfl eC71 rfl ?_)
    have q72 := Box.ex hB19 hE66
    refine SeqR.u rfl rfl (yl_store (vs := [.string (bs ((p_t.Idxs.getD (((i_Table_findIdx p_t p_name)).toNat) d_Idx).Name)), .int .i64 ((p_t.Idxs.getD (((i_Table_findIdx p_t p_name)).toNat) d_Idx).Col), .int .i64 ((p_t.Idxs.getD (((i_Table_findIdx p_t p_name)).toNat) d_Idx).Stage)]) Try.ty132 rfl hx67 rfl rfl rfl rfl q72 (Nat.le_of_ble_eq_true rfl) ?_)
    intro w73 hB74 hO75
    have hB74 : Box w73 b15 132 [.string (bs ((p_t.Idxs.getD (((i_Table_findIdx p_t p_name)).toNat) d_Idx).Name)), .int .i64 ((p_t.Idxs.getD (((i_Table_findIdx p_t p_name)).toNat) d_Idx).Col), .int .i64 ((p_t.Idxs.getD (((i_Table_findIdx p_t p_name)).toNat) d_Idx).Stage)] := hB74
    have hO75z := hO75.size
    refine SeqR.done ?_
    refine tn ?_
    refine CW.sub (Sub.cons (d := 4) hx67 (Sub.nil _)) ?_
    refine CW.ret ?_
    refine rr rfl (.cons ⟨_, rfl, run_loadN Try.ty132 (cs := [.string (bs ((p_t.Idxs.getD (((i_Table_findIdx p_t p_name)).toNat) d_Idx).Name)), .int .i64 ((p_t.Idxs.getD (((i_Table_findIdx p_t p_name)).toNat) d_Idx).Col), .int .i64 ((p_t.Idxs.getD (((i_Table_findIdx p_t p_name)).toNat) d_Idx).Stage)]) rfl (hB74.cells (n := 3) rfl)⟩ .nil) ?_
    have hM76 : (i_Table_idx p_t p_name) = ((p_t.Idxs.getD (((i_Table_findIdx p_t p_name)).toNat) d_Idx)) := by simp only [i_Table_idx, cond_true, cond_false, loopE_done, loopE_ret]
    rw [hM76]
    have q77 := Ex.trans (Ex.refl w) hE14
    have q78 := Ex.trans q77 hE20
    have q79 := Ex.trans q78 hE66
    have q80 := Below.only q79 hO75 (by omega)
    exact ⟨rfl, (okL.getD o3.2.2 ok_d_Idx _), q80⟩
set_option maxRecDepth 100000 in
set_option maxHeartbeats 2000000 in
theorem c_i_Table_idxKey {A1 : Option Addr} {c1 : Nat} {A2 : Option Addr} {c2 : Nat} {A5 : Option Addr} {c5 : Nat} {w : World} (p_t : DTable) (p_name : Str) (p_r : DRow) (h1 : RdS w (Iv 0 w.heap.size) (RF e_Str) 1 A1 p_t.Cols.length c1 p_t.Cols) (h2 : RdS w (Iv 0 w.heap.size) (RF e_Idx) 3 A2 p_t.Idxs.length c2 p_t.Idxs) (h5 : RdS w (Iv 0 w.heap.size) (RF e_Str) 1 A5 p_r.Vals.length c5 p_r.Vals) (o3 : ok_Table p_t) (o4 : okS p_name) (o6 : ok_Row p_r) (pre0 : (0 ≤ i_Table_findIdx p_t p_name ∧ i_Table_findIdx p_t p_name < (p_t.Idxs.length : Int))) (pre1 : (0 ≤ (i_Table_idx p_t p_name).Col ∧ (i_Table_idx p_t p_name).Col < (p_r.Vals.length : Int))) (pre2 : (p_t.Name.length ≤ 1 ∧ p_name.length ≤ 1)) (pre3 : rowShort p_r) : Cal Try.prog 91 #[.agg #[.string (bs (p_t.Name)), .slice A1 p_t.Cols.length c1, .slice A2 p_t.Idxs.length c2], .string (bs (p_name)), .agg #[.slice A5 p_r.Vals.length c5]] w fun v w' => v = .string (bs ((i_Table_idxKey p_t p_name p_r))) ∧ okS (i_Table_idxKey p_t p_name p_r) ∧ Ex w w' := by
  have hol7 : p_t.Name.length ≤ 1073741824 := o3.1
  have hol8 := o3.2.1.1
  have hol9 := o3.2.2.1
  have hol10 : p_name.length ≤ 1073741824 := o4
  have hol11 := o6.1
  refine Cal.of (vs := [.agg #[.string (bs (p_t.Name)), .slice A1 p_t.Cols.length c1, .slice A2 p_t.Idxs.length c2], .string (bs (p_name)), .agg #[.slice A5 p_r.Vals.length c5]]) Try.func91 rfl Try.ntmps91 rfl ?_
  refine CW.seq ?_
  refine CW.region ?_
  refine SeqR.d1 rfl rfl rfl (yl_box (cs := [.string (bs (p_t.Name)), .slice A1 p_t.Cols.length c1, .slice A2 p_t.Idxs.length c2]) rfl rfl rfl ?_)
  intro b12 w13 hs14 hz15 hB16 hE17
  refine SeqR.d1 rfl rfl rfl (yl_box (cs := [.slice A5 p_r.Vals.length c5]) rfl rfl rfl ?_)
  intro b18 w19 hs20 hz21 hB22 hE23
  refine SeqR.d1 rfl rfl rfl (yl_assign rfl rfl ?_)
  refine SeqR.done ?_
  refine tn ?_
  refine CW.seq ?_
  have q24 := Box.ex hB16 hE23
  have q25 := RdS.ex good_Str h1 hE17
  have q26 := RdS.ex good_Str q25 hE23
  have q27 := RdS.ex good_Idx h2 hE17
  have q28 := RdS.ex good_Idx q27 hE23
  have q32 := RdS.ex good_Str h5 hE17
  have q33 := RdS.ex good_Str q32 hE23
  obtain ⟨eb34, eo34, ec34, eA34, eS34, ebl34, el34, eR34, eC34⟩ := RdS.atD q33 d_Str (i := ((i_Table_idx p_t p_name).Col).toNat) (by first | omega | assumption | (simp only [IntKind.wrap_i64] at *; omega))
  obtain rfl := eR34
  have eC34 : Cells w19 eb34 (eo34 + (((i_Table_idx p_t p_name).Col).toNat) * 1) [.string (bs ((p_r.Vals.getD (((i_Table_idx p_t p_name).Col).toNat) d_Str)))] := eC34
  have hol35 : (p_r.Vals.getD (((i_Table_idx p_t p_name).Col).toNat) d_Str).length ≤ 1073741824 := (okL.getD o6 ok_d_Str _)
  have hol36 : (p_r.Vals.getD (((i_Table_idx p_t p_name).Col).toNat) d_Str).length ≤ 1073741824 := (okL.getD o6 ok_d_Str _)
  obtain ⟨eb37, eo37, ec37, eA37, eS37, ebl37, el37, eR37, eC37⟩ := RdS.atD q33 d_Str (i := 0) (by first | omega | assumption)
  obtain rfl := eR37
  have eC37 : Cells w19 eb37 (eo37 + 0 * 1) [.string (bs ((p_r.Vals.getD 0 d_Str)))] := eC37
  have hol38 : (p_r.Vals.getD (((i_Table_idx p_t p_name).Col).toNat) d_Str).length ≤ 1073741824 := (okL.getD o6 ok_d_Str _)
  have hol39 : (p_r.Vals.getD 0 d_Str).length ≤ 1073741824 := (okL.getD o6 ok_d_Str _)
  have hrf40 := rf_idxHead p_t p_name
  refine CW.drawsI 19 (vgetI [DetI (.agg #[.string (bs (p_t.Name)), .slice A1 p_t.Cols.length c1, .slice A2 p_t.Idxs.length c2]), DetI (.string (bs (p_name))), DetI (.string (bs ((i_Table_idxHead p_t p_name)))), DetI (.pointer (some ⟨b18, 0 + 0, none⟩)), DetI (.slice A5 p_r.Vals.length c5), DetI (.agg #[.string (bs (p_t.Name)), .slice A1 p_t.Cols.length c1, .slice A2 p_t.Idxs.length c2]), DetI (.string (bs (p_name))), fun lo hi v wq => v = .agg #[.string (bs ((i_Table_idx p_t p_name).Name)), .int .i64 ((i_Table_idx p_t p_name).Col), .int .i64 ((i_Table_idx p_t p_name).Stage)] ∧ ok_Idx (i_Table_idx p_t p_name), DetI (.int .i64 ((i_Table_idx p_t p_name).Col)), DetI (.pointer (some ⟨eb34, eo34 + (((i_Table_idx p_t p_name).Col).toNat) * 1, none⟩)), DetI (.string (bs ((p_r.Vals.getD (((i_Table_idx p_t p_name).Col).toNat) d_Str)))), DetI (.string (bs ((i_Table_idxHead p_t p_name) ++ (p_r.Vals.getD (((i_Table_idx p_t p_name).Col).toNat) d_Str)))), DetI (.string (bs (((i_Table_idxHead p_t p_name) ++ (p_r.Vals.getD (((i_Table_idx p_t p_name).Col).toNat) d_Str)) ++ ([47] : Str)))), DetI (.pointer (some ⟨b18, 0 + 0, none⟩)), DetI (.slice A5 p_r.Vals.length c5), DetI (.pointer (some ⟨eb37, eo37 + 0 * 1, none⟩)), DetI (.string (bs ((p_r.Vals.getD 0 d_Str)))), DetI (.string (bs ((((i_Table_idxHead p_t p_name) ++ (p_r.Vals.getD (((i_Table_idx p_t p_name).Col).toNat) d_Str)) ++ ([47] : Str)) ++ (p_r.Vals.getD 0 d_Str)))), DetI (.string (bs ((((i_Table_idxHead p_t p_name) ++ (p_r.Vals.getD (((i_Table_idx p_t p_name).Col).toNat) d_Str)) ++ ([47] : Str)) ++ (p_r.Vals.getD 0 d_Str))))]) Try.follows rfl rfl rfl rfl rfl rfl (vgetI_stable ⟨StableI.det _, StableI.det _, StableI.det _, StableI.det _, StableI.det _, StableI.det _, StableI.det _, (fun _ _ _ _ _ ⟨hv, ho31⟩ e => ⟨hv, ho31⟩), StableI.det _, StableI.det _, StableI.det _, StableI.det _, StableI.det _, StableI.det _, StableI.det _, StableI.det _, StableI.det _, StableI.det _, StableI.det _, trivial⟩) ⟨?_, ?_, ?_, ?_, ?_, ?_, ?_, ?_, ?_, ?_, ?_, ?_, ?_, ?_, ?_, ?_, ?_, ?_, ?_, trivial⟩ ?_
  · intro L41 w42 hi43
    have hE44 := hi43.ex
    have hE44z := Ex.size hE44
    have hx45 := hi43.old 3 _ rfl rfl
    have q46 := Box.ex q24 hE44
    exact OpR.op' rfl (Yl.sameI (yl_loadN (cs := [.string (bs (p_t.Name)), .slice A1 p_t.Cols.length c1, .slice A2 p_t.Idxs.length c2]) Try.ty35 rfl hx45 (q46.cells (n := 3) rfl) rfl ⟨fun _ _ => rfl, rfl⟩))
  · intro L47 w48 hi49
    have hE50 := hi49.ex
    have hE50z := Ex.size hE50
    have hx51 := hi49.old 1 _ rfl rfl
    exact OpR.op' rfl (Yl.sameI (yl_move rfl hx51 ⟨fun _ _ => rfl, rfl⟩))
  · intro L52 w53 hi54
    have hE55 := hi54.ex
    have hE55z := Ex.size hE55
    obtain ⟨_, _, _, hx56, -, -, -, rfl⟩ := hi54.dep 0 7 rfl rfl
    obtain ⟨_, _, _, hx57, -, -, -, rfl⟩ := hi54.dep 1 8 rfl rfl
    have q58 := RdS.ex good_Str q26 hE55
    have q59 := RdS.ex good_Idx q28 hE55
    refine OpR.op' rfl (yl_call Try.en160 rfl (opvs_cons hx56 (opvs_cons hx57 opvs_nil)) (Cal.mono (c_i_Table_idxHead p_t p_name (RdS.up q58 good_Str) (RdS.up q59 good_Idx) o3 o4) ?_))
    rintro v61 w60 ⟨rfl, hE62⟩
    exact ⟨rfl, hE62⟩
  · intro L63 w64 hi65
    have hE66 := hi65.ex
    have hE66z := Ex.size hE66
    have hx67 := hi65.old 5 _ rfl rfl
    exact OpR.op' rfl (Yl.sameI (yl_fieldAddr Try.fd37_0 rfl hx67 ⟨fun _ _ => rfl, rfl⟩))
  · intro L68 w69 hi70
    have hE71 := hi70.ex
    have hE71z := Ex.size hE71
    obtain ⟨_, _, _, hx72, -, -, -, rfl⟩ := hi70.dep 3 10 rfl rfl
    have q73 := Box.ex hB22 hE71
    exact OpR.op' rfl (Yl.sameI (yl_load1 Try.ty22 rfl hx72 ((q73.cell 0).trans rfl) ⟨fun _ _ => rfl, rfl⟩))
  · intro L74 w75 hi76
    have hE77 := hi76.ex
    have hE77z := Ex.size hE77
    have hx78 := hi76.old 3 _ rfl rfl
    have q79 := Box.ex q24 hE77
    exact OpR.op' rfl (Yl.sameI (yl_loadN (cs := [.string (bs (p_t.Name)), .slice A1 p_t.Cols.length c1, .slice A2 p_t.Idxs.length c2]) Try.ty35 rfl hx78 (q79.cells (n := 3) rfl) rfl ⟨fun _ _ => rfl, rfl⟩))
  · intro L80 w81 hi82
    have hE83 := hi82.ex
    have hE83z := Ex.size hE83
    have hx84 := hi82.old 1 _ rfl rfl
    exact OpR.op' rfl (Yl.sameI (yl_move rfl hx84 ⟨fun _ _ => rfl, rfl⟩))
  · intro L85 w86 hi87
    have hE88 := hi87.ex
    have hE88z := Ex.size hE88
    obtain ⟨_, _, _, hx89, -, -, -, rfl⟩ := hi87.dep 5 12 rfl rfl
    obtain ⟨_, _, _, hx90, -, -, -, rfl⟩ := hi87.dep 6 13 rfl rfl
    have q91 := RdS.ex good_Str q26 hE88
    have q92 := RdS.ex good_Idx q28 hE88
    refine OpR.op' rfl (yl_call Try.en161 rfl (opvs_cons hx89 (opvs_cons hx90 opvs_nil)) (Cal.mono (c_i_Table_idx p_t p_name (RdS.up q91 good_Str) (RdS.up q92 good_Idx) o3 o4 (by first | omega | assumption | (simp only [IntKind.wrap_i64] at *; omega))) ?_))
    rintro v95 w93 ⟨rfl, ho94, hE96⟩
    exact ⟨⟨rfl, ho94⟩, hE96⟩
  · intro L97 w98 hi99
    have hE100 := hi99.ex
    have hE100z := Ex.size hE100
    obtain ⟨lo102, hh103, _, hx101, hr104, hr105, hr106, rfl, h107⟩ := hi99.dep 7 14 rfl rfl
    exact OpR.op' rfl (Yl.sameI (yl_field1 Try.fd132_1 rfl hx101 rfl ⟨fun _ _ => rfl, rfl⟩))
  · intro L108 w109 hi110
    have hE111 := hi110.ex
    have hE111z := Ex.size hE111
    obtain ⟨_, _, _, hx112, -, -, -, rfl⟩ := hi110.dep 4 11 rfl rfl
    obtain ⟨_, _, _, hx113, -, -, -, rfl⟩ := hi110.dep 8 15 rfl rfl
    exact OpR.op' rfl (Yl.sameI (yl_indexAddr Try.un22 Try.ty9 rfl hx112 hx113 eA34 (by first | omega | assumption | (simp only [IntKind.wrap_i64] at *; omega)) (by first | omega | assumption | (simp only [IntKind.wrap_i64] at *; omega)) ⟨fun _ _ => rfl, rfl⟩))
  · intro L114 w115 hi116
    have hE117 := hi116.ex
    have hE117z := Ex.size hE117
    obtain ⟨_, _, _, hx118, -, -, -, rfl⟩ := hi116.dep 9 16 rfl rfl
    have q119 := Cells.ex eC34 hE117
    exact OpR.op' rfl (Yl.sameI (yl_load1 Try.ty9 rfl hx118 (q119 0 _ rfl) ⟨fun _ _ => rfl, rfl⟩))
  · intro L120 w121 hi122
    have hE123 := hi122.ex
    have hE123z := Ex.size hE123
    obtain ⟨_, _, _, hx124, -, -, -, rfl⟩ := hi122.dep 2 9 rfl rfl
    obtain ⟨_, _, _, hx125, -, -, -, rfl⟩ := hi122.dep 10 17 rfl rfl
    have hol126 : (p_r.Vals.getD (((i_Table_idx p_t p_name).Col).toNat) d_Str).length ≤ 1073741824 := (okL.getD o6 ok_d_Str _)
    exact OpR.op' rfl (Yl.sameI (yl_sadd (a := (i_Table_idxHead p_t p_name)) (b := (p_r.Vals.getD (((i_Table_idx p_t p_name).Col).toNat) d_Str)) rfl hx124 hx125 (by first | omega | (simp only [List.length_append, List.length_cons, List.length_nil, List.length_take, List.length_drop]; omega)) ⟨fun _ _ => rfl, rfl⟩))
  · intro L127 w128 hi129
    have hE130 := hi129.ex
    have hE130z := Ex.size hE130
    obtain ⟨_, _, _, hx131, -, -, -, rfl⟩ := hi129.dep 11 18 rfl rfl
    have hol132 : (p_r.Vals.getD (((i_Table_idx p_t p_name).Col).toNat) d_Str).length ≤ 1073741824 := (okL.getD o6 ok_d_Str _)
    exact OpR.op' rfl (Yl.sameI (yl_sadd (a := ((i_Table_idxHead p_t p_name) ++ (p_r.Vals.getD (((i_Table_idx p_t p_name).Col).toNat) d_Str))) (b := ([47] : Str)) rfl hx131 rfl (by first | omega | (simp only [List.length_append, List.length_cons, List.length_nil, List.length_take, List.length_drop]; omega)) ⟨fun _ _ => rfl, rfl⟩))
  · intro L133 w134 hi135
    have hE136 := hi135.ex
    have hE136z := Ex.size hE136
    have hx137 := hi135.old 5 _ rfl rfl
    exact OpR.op' rfl (Yl.sameI (yl_fieldAddr Try.fd37_0 rfl hx137 ⟨fun _ _ => rfl, rfl⟩))
  · intro L138 w139 hi140
    have hE141 := hi140.ex
    have hE141z := Ex.size hE141
    obtain ⟨_, _, _, hx142, -, -, -, rfl⟩ := hi140.dep 13 20 rfl rfl
    have q143 := Box.ex hB22 hE141
    exact OpR.op' rfl (Yl.sameI (yl_load1 Try.ty22 rfl hx142 ((q143.cell 0).trans rfl) ⟨fun _ _ => rfl, rfl⟩))
  · intro L144 w145 hi146
    have hE147 := hi146.ex
    have hE147z := Ex.size hE147
    obtain ⟨_, _, _, hx148, -, -, -, rfl⟩ := hi146.dep 14 21 rfl rfl
    exact OpR.op' rfl (Yl.sameI (yl_indexAddrN Try.un22 Try.ty9 rfl hx148 rfl eA37 (by first | omega | assumption | (simp only [IntKind.wrap_i64] at *; omega)) ⟨fun _ _ => rfl, rfl⟩))
  · intro L149 w150 hi151
    have hE152 := hi151.ex
    have hE152z := Ex.size hE152
    obtain ⟨_, _, _, hx153, -, -, -, rfl⟩ := hi151.dep 15 22 rfl rfl
    have q154 := Cells.ex eC37 hE152
    exact OpR.op' rfl (Yl.sameI (yl_load1 Try.ty9 rfl hx153 (q154 0 _ rfl) ⟨fun _ _ => rfl, rfl⟩))
  · intro L155 w156 hi157
    have hE158 := hi157.ex
    have hE158z := Ex.size hE158
    obtain ⟨_, _, _, hx159, -, -, -, rfl⟩ := hi157.dep 12 19 rfl rfl
    obtain ⟨_, _, _, hx160, -, -, -, rfl⟩ := hi157.dep 16 23 rfl rfl
    have hol161 : (p_r.Vals.getD (((i_Table_idx p_t p_name).Col).toNat) d_Str).length ≤ 1073741824 := (okL.getD o6 ok_d_Str _)
    have hol162 : (p_r.Vals.getD 0 d_Str).length ≤ 1073741824 := (okL.getD o6 ok_d_Str _)
    exact OpR.op' rfl (Yl.sameI (yl_sadd (a := (((i_Table_idxHead p_t p_name) ++ (p_r.Vals.getD (((i_Table_idx p_t p_name).Col).toNat) d_Str)) ++ ([47] : Str))) (b := (p_r.Vals.getD 0 d_Str)) rfl hx159 hx160 (by first | omega | (simp only [List.length_append, List.length_cons, List.length_nil, List.length_take, List.length_drop]; omega)) ⟨fun _ _ => rfl, rfl⟩))
  · intro L163 w164 hi165
    have hE166 := hi165.ex
    have hE166z := Ex.size hE166
    obtain ⟨_, _, _, hx167, -, -, -, rfl⟩ := hi165.dep 17 24 rfl rfl
    exact OpR.op' rfl (Yl.sameI (yl_assign rfl hx167 ⟨fun _ _ => rfl, rfl⟩))
  · intro fl171 fh172 L168 w169 hp170
    have hE173 := hp170.ex
    have hE173z := Ex.size hE173
    obtain ⟨_, hx174, rfl⟩ := hp170.new 18 6 rfl rfl
    refine SeqR.done ?_
    refine tn ?_
    refine CW.sub (Sub.cons (d := 6) hx174 (Sub.nil _)) ?_
    refine CW.ret ?_
    refine rr rfl (.cons rfl .nil) ?_
    have hM175 : (i_Table_idxKey p_t p_name p_r) = ((((i_Table_idxHead p_t p_name) ++ (p_r.Vals.getD (((i_Table_idx p_t p_name).Col).toNat) d_Str)) ++ ([47] : Str)) ++ (p_r.Vals.getD 0 d_Str)) := by simp only [i_Table_idxKey, cond_true, cond_false, loopE_done, loopE_ret]
    rw [hM175]
    have q176 := Ex.trans (Ex.refl w) hE17
    have q177 := Ex.trans q176 hE23
    have q178 := Ex.trans q177 hE173
    exact ⟨rfl, (okS_idxKey pre2 pre3), q178⟩
set_option maxRecDepth 100000 in
set_option maxHeartbeats 2000000 in
theorem c_i_IdxKey {A1 : Option Addr} {c1 : Nat} {A2 : Option Addr} {c2 : Nat} {A5 : Option Addr} {c5 : Nat} {w : World} (p_t : DTable) (p_name : Str) (p_r : DRow) (h1 : RdS w (Iv 0 w.heap.size) (RF e_Str) 1 A1 p_t.Cols.length c1 p_t.Cols) (h2 : RdS w (Iv 0 w.heap.size) (RF e_Idx) 3 A2 p_t.Idxs.length c2 p_t.Idxs) (h5 : RdS w (Iv 0 w.heap.size) (RF e_Str) 1 A5 p_r.Vals.length c5 p_r.Vals) (o3 : ok_Table p_t) (o4 : okS p_name) (o6 : ok_Row p_r) : Cal Try.prog 35 #[.agg #[.string (bs (p_t.Name)), .slice A1 p_t.Cols.length c1, .slice A2 p_t.Idxs.length c2], .string (bs (p_name)), .agg #[.slice A5 p_r.Vals.length c5]] w fun v w' => v = .tuple #[.string (bs ((i_IdxKey p_t p_name p_r).1)), .bool ((i_IdxKey p_t p_name p_r).2)] ∧ okS ((i_IdxKey p_t p_name p_r).1) ∧ Ex w w' := by
  have hol7 : p_t.Name.length ≤ 1073741824 := o3.1
  have hol8 := o3.2.1.1
  have hol9 := o3.2.2.1
  have hol10 : p_name.length ≤ 1073741824 := o4
  have hol11 := o6.1
  refine Cal.of (vs := [.agg #[.string (bs (p_t.Name)), .slice A1 p_t.Cols.length c1, .slice A2 p_t.Idxs.length c2], .string (bs (p_name)), .agg #[.slice A5 p_r.Vals.length c5]]) Try.func35 rfl Try.ntmps35 rfl ?_
  refine CW.seq ?_
  refine CW.region ?_
  refine SeqR.d1 rfl rfl rfl (yl_box (cs := [.string (bs (p_t.Name)), .slice A1 p_t.Cols.length c1, .slice A2 p_t.Idxs.length c2]) rfl rfl rfl ?_)
  intro b12 w13 hs14 hz15 hB16 hE17
  refine SeqR.d1 rfl rfl rfl (yl_box (cs := [.slice A5 p_r.Vals.length c5]) rfl rfl rfl ?_)
  intro b18 w19 hs20 hz21 hB22 hE23
  refine SeqR.d1 rfl rfl rfl (yl_assign rfl rfl ?_)
  refine SeqR.d1 rfl rfl rfl (yl_assign rfl rfl ?_)
  refine SeqR.done ?_
  refine tn ?_
  refine CW.seq ?_
  refine CW.seq ?_
  refine CW.region ?_
  have q24 := Box.ex hB16 hE23
  refine SeqR.d1 rfl rfl rfl (yl_loadN (cs := [.string (bs (p_t.Name)), .slice A1 p_t.Cols.length c1, .slice A2 p_t.Idxs.length c2]) Try.ty35 rfl rfl (q24.cells (n := 3) rfl) rfl ?_)
  refine SeqR.d1 rfl rfl rfl (yl_loadN (cs := [.slice A5 p_r.Vals.length c5]) Try.ty37 rfl rfl (hB22.cells (n := 1) rfl) rfl ?_)
  have q25 := RdS.ex good_Str h1 hE17
  have q26 := RdS.ex good_Str q25 hE23
  have q27 := RdS.ex good_Idx h2 hE17
  have q28 := RdS.ex good_Idx q27 hE23
  have q29 := RdS.ex good_Str h5 hE17
  have q30 := RdS.ex good_Str q29 hE23
  refine SeqR.d1 rfl rfl rfl (yl_call Try.en89 rfl (opvs_cons rfl (opvs_cons rfl opvs_nil)) (Cal.mono (c_i_GoodRow p_t p_r (RdS.up q26 good_Str) (RdS.up q28 good_Idx) (RdS.up q30 good_Str) o3 o6) ?_))
  rintro v32 w31 ⟨rfl, hE33⟩
  have hE33z := Ex.size hE33
  refine SeqR.d1 rfl rfl rfl (yl_not rfl rfl ?_)
  refine SeqR.d1 rfl rfl rfl (yl_move rfl rfl ?_)
  refine bcase (i_GoodRow p_t p_r) (fun hb34 => ?_) (fun hb34 => ?_)
  · obtain ⟨hb34p0, hb34p1, hb34p2⟩ := f_i_GoodRow hb34
    have q35 := Box.ex q24 hE33
    refine SeqR.y rfl rfl rfl rfl rfl (not_t hb34) (yl_loadN (cs := [.string (bs (p_t.Name)), .slice A1 p_t.Cols.length c1, .slice A2 p_t.Idxs.length c2]) Try.ty35 rfl rfl (q35.cells (n := 3) rfl) rfl ?_)
    refine SeqR.y rfl rfl rfl rfl rfl (not_t hb34) (yl_move rfl rfl ?_)
    have q36 := RdS.ex good_Str q26 hE33
    have q37 := RdS.ex good_Idx q28 hE33
    refine SeqR.y rfl rfl rfl rfl rfl (not_t hb34) (yl_call Try.en90 rfl (opvs_cons rfl (opvs_cons rfl opvs_nil)) (Cal.mono (c_i_hasIdx p_t p_name (RdS.up q36 good_Str) (RdS.up q37 good_Idx) o3 o4) ?_))
    rintro v39 w38 ⟨rfl, hE40⟩
    have hE40z := Ex.size hE40
    refine SeqR.y rfl rfl rfl rfl rfl (not_t hb34) (yl_not rfl rfl ?_)
    refine SeqR.d1 rfl rfl rfl (yl_pick_f rfl rfl (not_t hb34) rfl ?_)
    refine SeqR.done ?_
    refine tn ?_
    refine bcase (i_hasIdx p_t p_name) (fun hb41 => ?_) (fun hb41 => ?_)
    · obtain ⟨hb41p0, hb41p1, hb41p2⟩ := f_i_hasIdx hb41
      refine CW.cond_f rfl (not_t hb41) ?_
      refine CW.skip ?_
      refine tn ?_
      refine CW.seq ?_
      refine CW.region ?_
      have q42 := Box.ex q35 hE40
      refine SeqR.d1 rfl rfl rfl (yl_loadN (cs := [.string (bs (p_t.Name)), .slice A1 p_t.Cols.length c1, .slice A2 p_t.Idxs.length c2]) Try.ty35 rfl rfl (q42.cells (n := 3) rfl) rfl ?_)
      refine SeqR.d1 rfl rfl rfl (yl_move rfl rfl ?_)
      have q43 := Box.ex hB22 hE33
      have q44 := Box.ex q43 hE40
      refine SeqR.d1 rfl rfl rfl (yl_loadN (cs := [.slice A5 p_r.Vals.length c5]) Try.ty37 rfl rfl (q44.cells (n := 1) rfl) rfl ?_)
      have q45 := RdS.ex good_Str q36 hE40
      have q46 := RdS.ex good_Idx q37 hE40
      have q47 := RdS.ex good_Str q30 hE33
      have q48 := RdS.ex good_Str q47 hE40
      refine SeqR.d1 rfl rfl rfl (yl_call Try.en91 rfl (opvs_cons rfl (opvs_cons rfl (opvs_cons rfl opvs_nil))) (Cal.mono (c_i_Table_idxKey p_t p_name p_r (RdS.up q45 good_Str) (RdS.up q46 good_Idx) (RdS.up q48 good_Str) o3 o4 o6 (by first | omega | assumption | (simp only [IntKind.wrap_i64] at *; omega)) (by first | omega | assumption | (simp only [IntKind.wrap_i64] at *; omega)) (by first | omega | assumption | (simp only [IntKind.wrap_i64] at *; omega)) (by first | omega | assumption | (simp only [IntKind.wrap_i64] at *; omega))) ?_))
      rintro v51 w49 ⟨rfl, ho50, hE52⟩
      have hE52z := Ex.size hE52
      refine SeqR.d1 rfl rfl rfl (yl_assign rfl rfl ?_)
      refine SeqR.d1 rfl rfl rfl (yl_assign rfl rfl ?_)
      refine SeqR.done ?_
      refine tn ?_
      refine CW.ret ?_
      refine rr rfl (.cons rfl (.cons rfl .nil)) ?_
      have hM53 : (i_IdxKey p_t p_name p_r) = (((i_Table_idxKey p_t p_name p_r), true)) := by simp only [i_IdxKey, hb34, hb41, cond_true, cond_false, loopE_done, loopE_ret]
      rw [hM53]
      have q54 := Ex.trans (Ex.refl w) hE17
      have q55 := Ex.trans q54 hE23
      have q56 := Ex.trans q55 hE33
      have q57 := Ex.trans q56 hE40
      have q58 := Ex.trans q57 hE52
      exact ⟨rfl, ho50, q58⟩
    · skip
      refine CW.cond_t rfl (not_f hb41) ?_
      refine CW.seq ?_
      refine CW.region ?_
      refine SeqR.d1 rfl rfl rfl (yl_assign rfl rfl ?_)
      refine SeqR.d1 rfl rfl rfl (yl_assign rfl rfl ?_)
      refine SeqR.done ?_
      refine tn ?_
      refine CW.ret ?_
      refine tr ?_
      refine rr rfl (.cons rfl (.cons rfl .nil)) ?_
      have hM59 : (i_IdxKey p_t p_name p_r) = ((([] : Str), false)) := by simp only [i_IdxKey, hb34, hb41, cond_true, cond_false, loopE_done, loopE_ret]
      rw [hM59]
      have q60 := Ex.trans (Ex.refl w) hE17
      have q61 := Ex.trans q60 hE23
      have q62 := Ex.trans q61 hE33
      have q63 := Ex.trans q62 hE40
      exact ⟨rfl, (okS.lit rfl), q63⟩
  · skip
    refine SeqR.z rfl rfl rfl rfl rfl (not_f hb34) ?_
    refine SeqR.z rfl rfl rfl rfl rfl (not_f hb34) ?_
    refine SeqR.z rfl rfl rfl rfl rfl (not_f hb34) ?_
    refine SeqR.z rfl rfl rfl rfl rfl (not_f hb34) ?_
    refine SeqR.d1 rfl rfl rfl (yl_pick_t rfl rfl (not_f hb34) rfl ?_)
    refine SeqR.done ?_
    refine tn ?_
    refine CW.cond_t rfl rfl ?_
    refine CW.seq ?_
    refine CW.region ?_
    refine SeqR.d1 rfl rfl rfl (yl_assign rfl rfl ?_)
    refine SeqR.d1 rfl rfl rfl (yl_assign rfl rfl ?_)
    refine SeqR.done ?_
    refine tn ?_
    refine CW.ret ?_
    refine tr ?_
    refine rr rfl (.cons rfl (.cons rfl .nil)) ?_
    have hM64 : (i_IdxKey p_t p_name p_r) = ((([] : Str), false)) := by simp only [i_IdxKey, hb34, cond_true, cond_false, loopE_done, loopE_ret]
    rw [hM64]
    have q65 := Ex.trans (Ex.refl w) hE17
    have q66 := Ex.trans q65 hE23
    have q67 := Ex.trans q66 hE33
    exact ⟨rfl, (okS.lit rfl), q67⟩
set_option maxRecDepth 100000 in
set_option maxHeartbeats 2000000 in
theorem c_l_eqRow {A1 : Option Addr} {c1 : Nat} {A2 : Option Addr} {c2 : Nat} {w : World} (p_a : DRow) (p_b : DRow) (h1 : RdS w (Iv 0 w.heap.size) (RF e_Str) 1 A1 p_a.Vals.length c1 p_a.Vals) (h2 : RdS w (Iv 0 w.heap.size) (RF e_Str) 1 A2 p_b.Vals.length c2 p_b.Vals) : Cal Try.prog 36 #[.agg #[.slice A1 p_a.Vals.length c1], .agg #[.slice A2 p_b.Vals.length c2]] w fun v w' => v = .bool ((l_eqRow p_a p_b)) ∧ Ex w w' := by
  refine Cal.of (vs := [.agg #[.slice A1 p_a.Vals.length c1], .agg #[.slice A2 p_b.Vals.length c2]]) Try.func36 rfl Try.ntmps36 rfl ?_
  refine CW.seq ?_
  refine CW.region ?_
  refine SeqR.d1 rfl rfl rfl (yl_box (cs := [.slice A1 p_a.Vals.length c1]) rfl rfl rfl ?_)
  intro b3 w4 hs5 hz6 hB7 hE8
  refine SeqR.d1 rfl rfl rfl (yl_box (cs := [.slice A2 p_b.Vals.length c2]) rfl rfl rfl ?_)
  intro b9 w10 hs11 hz12 hB13 hE14
  refine SeqR.d1 rfl rfl rfl (yl_assign rfl rfl ?_)
  refine SeqR.done ?_
  refine tn ?_
  refine CW.seq ?_
  refine CW.seq ?_
  refine CW.region ?_
  refine SeqR.d1 rfl rfl rfl (yl_fieldAddr Try.fd37_0 rfl rfl ?_)
  have q15 := Box.ex hB7 hE14
  refine SeqR.d1 rfl rfl rfl (yl_load1 Try.ty22 rfl rfl ((q15.cell 0).trans rfl) ?_)
  refine SeqR.d1 rfl rfl rfl (yl_fieldAddr Try.fd37_0 rfl rfl ?_)
  refine SeqR.d1 rfl rfl rfl (yl_load1 Try.ty22 rfl rfl ((hB13.cell 0).trans rfl) ?_)
  have q16 := RdS.ex good_Str h1 hE8
  have q17 := RdS.ex good_Str q16 hE14
  have q18 := RdS.ex good_Str h2 hE8
  have q19 := RdS.ex good_Str q18 hE14
  refine SeqR.d1 rfl rfl rfl (yl_call Try.en74 rfl (opvs_cons rfl (opvs_cons rfl opvs_nil)) (Cal.mono (c_l_eqStringS p_a.Vals p_b.Vals (RdS.up q17 good_Str) (RdS.up q19 good_Str)) ?_))
  rintro v21 w20 ⟨rfl, hE22⟩
  have hE22z := Ex.size hE22
  refine SeqR.d1 rfl rfl rfl (yl_not rfl rfl ?_)
  refine SeqR.done ?_
  refine tn ?_
  refine bcase (l_eqStringS p_a.Vals p_b.Vals) (fun hb23 => ?_) (fun hb23 => ?_)
  · skip
    refine CW.cond_f rfl (not_t hb23) ?_
    refine CW.skip ?_
    refine tn ?_
    refine CW.seq ?_
    refine CW.region ?_
    refine SeqR.d1 rfl rfl rfl (yl_assign rfl rfl ?_)
    refine SeqR.done ?_
    refine tn ?_
    refine CW.ret ?_
    refine rr rfl (.cons rfl .nil) ?_
    have hM24 : (l_eqRow p_a p_b) = (true) := by simp only [l_eqRow, hb23, cond_true, cond_false, loopE_done, loopE_ret]
    rw [hM24]
    have q25 := Ex.trans (Ex.refl w) hE8
    have q26 := Ex.trans q25 hE14
    have q27 := Ex.trans q26 hE22
    exact ⟨rfl, q27⟩
  · skip
    refine CW.cond_t rfl (not_f hb23) ?_
    refine CW.seq ?_
    refine CW.region ?_
    refine SeqR.d1 rfl rfl rfl (yl_assign rfl rfl ?_)
    refine SeqR.done ?_
    refine tn ?_
    refine CW.ret ?_
    refine tr ?_
    refine rr rfl (.cons rfl .nil) ?_
    have hM28 : (l_eqRow p_a p_b) = (false) := by simp only [l_eqRow, hb23, cond_true, cond_false, loopE_done, loopE_ret]
    rw [hM28]
    have q29 := Ex.trans (Ex.refl w) hE8
    have q30 := Ex.trans q29 hE14
    have q31 := Ex.trans q30 hE22
    exact ⟨rfl, q31⟩
set_option maxRecDepth 100000 in
set_option maxHeartbeats 2000000 in
theorem c_l_FnExactIdxKey {A1 : Option Addr} {c1 : Nat} {A2 : Option Addr} {c2 : Nat} {A3 : Option Addr} {c3 : Nat} {w : World} (p_0 : DTable) (p_1 : Str) (p_2 : DRow) (h1 : RdS w (Iv 0 w.heap.size) (RF e_Str) 1 A1 p_0.Cols.length c1 p_0.Cols) (h2 : RdS w (Iv 0 w.heap.size) (RF e_Idx) 3 A2 p_0.Idxs.length c2 p_0.Idxs) (h3 : RdS w (Iv 0 w.heap.size) (RF e_Str) 1 A3 p_2.Vals.length c3 p_2.Vals) (pre0 : wf_Table p_0) (pre1 : wfS p_1) (pre2 : wf_Row p_2) : Cal Try.prog 6 #[.agg #[.string (bs (p_0.Name)), .slice A1 p_0.Cols.length c1, .slice A2 p_0.Idxs.length c2], .string (bs (p_1)), .agg #[.slice A3 p_2.Vals.length c3]] w fun v w' => v = .bool ((l_FnExactIdxKey p_0 p_1 p_2)) ∧ Ex w w' := by
  refine Cal.of (vs := [.agg #[.string (bs (p_0.Name)), .slice A1 p_0.Cols.length c1, .slice A2 p_0.Idxs.length c2], .string (bs (p_1)), .agg #[.slice A3 p_2.Vals.length c3]]) Try.func6 rfl Try.ntmps6 rfl ?_
  refine CW.seq ?_
  refine CW.region ?_
  refine SeqR.d1 rfl rfl rfl (yl_box (cs := [.string (bs (p_0.Name)), .slice A1 p_0.Cols.length c1, .slice A2 p_0.Idxs.length c2]) rfl rfl rfl ?_)
  intro b4 w5 hs6 hz7 hB8 hE9
  refine SeqR.d1 rfl rfl rfl (yl_box (cs := [.slice A3 p_2.Vals.length c3]) rfl rfl rfl ?_)
  intro b10 w11 hs12 hz13 hB14 hE15
  refine SeqR.d1 rfl rfl rfl (yl_assign rfl rfl ?_)
  refine SeqR.done ?_
  refine tn ?_
  refine CW.seq ?_
  refine CW.seq ?_
  refine CW.region ?_
  refine SeqR.d1 rfl rfl rfl (yl_move rfl rfl ?_)
  refine SeqR.d1 rfl rfl rfl (yl_slen Try.un9 (a := p_1) rfl rfl ?_)
  refine SeqR.d1 rfl rfl rfl (yl_gtr rfl rfl rfl ?_)
  refine SeqR.done ?_
  refine tn ?_
  refine bcase (decide (1048576 < (p_1.length : Int))) (fun hb16 => ?_) (fun hb16 => ?_)
  · have hb16p := dec_t hb16
    refine CW.cond_t rfl hb16 ?_
    refine CW.seq ?_
    refine CW.region ?_
    refine SeqR.d1 rfl rfl rfl (yl_assign rfl rfl ?_)
    refine SeqR.done ?_
    refine tn ?_
    refine CW.ret ?_
    refine tr ?_
    refine rr rfl (.cons rfl .nil) ?_
    have hM17 : (l_FnExactIdxKey p_0 p_1 p_2) = (true) := by simp only [l_FnExactIdxKey, hb16, cond_true, cond_false, loopE_done, loopE_ret]
    rw [hM17]
    have q18 := Ex.trans (Ex.refl w) hE9
    have q19 := Ex.trans q18 hE15
    exact ⟨rfl, q19⟩
  · have hb16p := dec_f hb16
    refine CW.cond_f rfl hb16 ?_
    refine CW.skip ?_
    refine tn ?_
    refine CW.seq ?_
    refine CW.region ?_
    refine SeqR.d1 rfl rfl rfl (yl_assign rfl rfl ?_)
    refine SeqR.done ?_
    refine tn ?_
    refine CW.seq ?_
    refine CW.region ?_
    have q20 := Box.ex hB8 hE15
    refine SeqR.d1 rfl rfl rfl (yl_loadN (cs := [.string (bs (p_0.Name)), .slice A1 p_0.Cols.length c1, .slice A2 p_0.Idxs.length c2]) Try.ty25 rfl rfl (q20.cells (n := 3) rfl) rfl ?_)
    refine SeqR.d1 rfl rfl rfl (yl_move rfl rfl ?_)
    have q21 := RdS.ex good_Str h1 hE9
    have q22 := RdS.ex good_Str q21 hE15
    have q23 := RdS.ex good_Idx h2 hE9
    have q24 := RdS.ex good_Idx q23 hE15
    refine SeqR.d1 rfl rfl rfl (yl_call Try.en14 rfl (opvs_cons rfl (opvs_cons rfl opvs_nil)) (Cal.mono (c_l_szTable p_0 1048576 (RdS.up q22 good_Str) (RdS.up q24 good_Idx)) ?_))
    rintro v26 w25 ⟨rfl, hE27⟩
    have hE27z := Ex.size hE27
    refine SeqR.d1 rfl rfl rfl (yl_assign rfl rfl ?_)
    refine SeqR.done ?_
    refine tn ?_
    refine CW.seq ?_
    refine CW.seq ?_
    refine CW.region ?_
    refine SeqR.d1 rfl rfl rfl (yl_move rfl rfl ?_)
    refine SeqR.d1 rfl rfl rfl (yl_lss rfl rfl rfl ?_)
    refine SeqR.done ?_
    refine tn ?_
    refine bcase (decide ((l_szTable p_0 1048576) < 0)) (fun hb28 => ?_) (fun hb28 => ?_)
    · have hb28p := dec_t hb28
      refine CW.cond_t rfl hb28 ?_
      refine CW.seq ?_
      refine CW.region ?_
      refine SeqR.d1 rfl rfl rfl (yl_assign rfl rfl ?_)
      refine SeqR.done ?_
      refine tn ?_
      refine CW.ret ?_
      refine tr ?_
      refine rr rfl (.cons rfl .nil) ?_
      have hM29 : (l_FnExactIdxKey p_0 p_1 p_2) = (true) := by simp only [l_FnExactIdxKey, hb16, hb28, cond_true, cond_false, loopE_done, loopE_ret]
      rw [hM29]
      have q30 := Ex.trans (Ex.refl w) hE9
      have q31 := Ex.trans q30 hE15
      have q32 := Ex.trans q31 hE27
      exact ⟨rfl, q32⟩
    · have hb28p := dec_f hb28
      refine CW.cond_f rfl hb28 ?_
      refine CW.skip ?_
      refine tn ?_
      refine CW.seq ?_
      refine CW.region ?_
      have q33 := Box.ex hB14 hE27
      refine SeqR.d1 rfl rfl rfl (yl_loadN (cs := [.slice A3 p_2.Vals.length c3]) Try.ty27 rfl rfl (q33.cells (n := 1) rfl) rfl ?_)
      refine SeqR.d1 rfl rfl rfl (yl_move rfl rfl ?_)
      have q34 := RdS.ex good_Str h3 hE9
      have q35 := RdS.ex good_Str q34 hE15
      have q36 := RdS.ex good_Str q35 hE27
      refine SeqR.d1 rfl rfl rfl (yl_call Try.en32 rfl (opvs_cons rfl (opvs_cons rfl opvs_nil)) (Cal.mono (c_l_szRow p_2 (l_szTable p_0 1048576) (RdS.up q36 good_Str)) ?_))
      rintro v38 w37 ⟨rfl, hE39⟩
      have hE39z := Ex.size hE39
      refine SeqR.d1 rfl rfl rfl (yl_assign rfl rfl ?_)
      refine SeqR.done ?_
      refine tn ?_
      refine CW.seq ?_
      refine CW.seq ?_
      refine CW.region ?_
      refine SeqR.d1 rfl rfl rfl (yl_move rfl rfl ?_)
      refine SeqR.d1 rfl rfl rfl (yl_lss rfl rfl rfl ?_)
      refine SeqR.done ?_
      refine tn ?_
      refine bcase (decide ((l_szRow p_2 (l_szTable p_0 1048576)) < 0)) (fun hb40 => ?_) (fun hb40 => ?_)
      · have hb40p := dec_t hb40
        refine CW.cond_t rfl hb40 ?_
        refine CW.seq ?_
        refine CW.region ?_
        refine SeqR.d1 rfl rfl rfl (yl_assign rfl rfl ?_)
        refine SeqR.done ?_
        refine tn ?_
        refine CW.ret ?_
        refine tr ?_
        refine rr rfl (.cons rfl .nil) ?_
        have hM41 : (l_FnExactIdxKey p_0 p_1 p_2) = (true) := by simp only [l_FnExactIdxKey, hb16, hb28, hb40, cond_true, cond_false, loopE_done, loopE_ret]
        rw [hM41]
        have q42 := Ex.trans (Ex.refl w) hE9
        have q43 := Ex.trans q42 hE15
        have q44 := Ex.trans q43 hE27
        have q45 := Ex.trans q44 hE39
        exact ⟨rfl, q45⟩
      · have hb40p := dec_f hb40
        refine CW.cond_f rfl hb40 ?_
        refine CW.skip ?_
        refine tn ?_
        refine CW.seq ?_
        have q46 := Box.ex q20 hE27
        have q47 := Box.ex q46 hE39
        have q48 := RdS.ex good_Str q22 hE27
        have q49 := RdS.ex good_Str q48 hE39
        have q50 := RdS.ex good_Idx q24 hE27
        have q51 := RdS.ex good_Idx q50 hE39
        have q55 := Box.ex q33 hE39
        have q56 := RdS.ex good_Str q36 hE39
        refine CW.drawsI 11 (vgetI [DetI (.agg #[.string (bs (p_0.Name)), .slice A1 p_0.Cols.length c1, .slice A2 p_0.Idxs.length c2]), fun lo hi v wq => ∃ A53 c53 lo53 hi53 A54 c54 lo54 hi54, v = .agg #[.string (bs (p_0.Name)), .slice A53 p_0.Cols.length c53, .slice A54 p_0.Idxs.length c54] ∧ OwnL wq lo53 hi53 9 1 (RF e_Str) A53 p_0.Cols.length c53 p_0.Cols ∧ OwnL wq lo54 hi54 132 3 (RF e_Idx) A54 p_0.Idxs.length c54 p_0.Idxs ∧ (lo ≤ lo53 ∧ lo53 ≤ hi53 ∧ hi53 ≤ hi) ∧ (lo ≤ lo54 ∧ lo54 ≤ hi54 ∧ hi54 ≤ hi) ∧ (hi53 ≤ lo54 ∨ hi54 ≤ lo53), DetI (.string (bs (p_1))), DetI (.agg #[.slice A3 p_2.Vals.length c3]), fun lo hi v wq => ∃ A58 c58 lo58 hi58, v = .agg #[.slice A58 p_2.Vals.length c58] ∧ OwnL wq lo58 hi58 9 1 (RF e_Str) A58 p_2.Vals.length c58 p_2.Vals ∧ (lo ≤ lo58 ∧ lo58 ≤ hi58 ∧ hi58 ≤ hi), fun lo hi v wq => v = .tuple #[.string (bs ((s_IdxKey p_0 p_1 p_2).1)), .bool ((s_IdxKey p_0 p_1 p_2).2)] ∧ okS ((s_IdxKey p_0 p_1 p_2).1), DetI (.tuple #[.string (bs ((s_IdxKey p_0 p_1 p_2).1)), .bool ((s_IdxKey p_0 p_1 p_2).2)]), DetI (.string (bs ((s_IdxKey p_0 p_1 p_2).1))), DetI (.bool ((s_IdxKey p_0 p_1 p_2).2)), DetI (.string (bs ((s_IdxKey p_0 p_1 p_2).1))), DetI (.bool ((s_IdxKey p_0 p_1 p_2).2))]) Try.follows rfl rfl rfl rfl rfl rfl (vgetI_stable ⟨StableI.det _, (fun _ _ _ _ _ ⟨A53, c53, lo53, hi53, A54, c54, lo54, hi54, hv, h53, h54, hr0, hr1, hr2⟩ e => ⟨A53, c53, lo53, hi53, A54, c54, lo54, hi54, hv, OwnL.ex good_Str h53 e, OwnL.ex good_Idx h54 e, hr0, hr1, hr2⟩), StableI.det _, StableI.det _, (fun _ _ _ _ _ ⟨A58, c58, lo58, hi58, hv, h58, hr0⟩ e => ⟨A58, c58, lo58, hi58, hv, OwnL.ex good_Str h58 e, hr0⟩), (fun _ _ _ _ _ ⟨hv, ho60⟩ e => ⟨hv, ho60⟩), StableI.det _, StableI.det _, StableI.det _, StableI.det _, StableI.det _, trivial⟩) ⟨?_, ?_, ?_, ?_, ?_, ?_, ?_, ?_, ?_, ?_, ?_, trivial⟩ ?_
        · intro L61 w62 hi63
          have hE64 := hi63.ex
          have hE64z := Ex.size hE64
          have hx65 := hi63.old 3 _ rfl rfl
          have q66 := Box.ex q47 hE64
          exact OpR.op' rfl (Yl.sameI (yl_loadN (cs := [.string (bs (p_0.Name)), .slice A1 p_0.Cols.length c1, .slice A2 p_0.Idxs.length c2]) Try.ty25 rfl hx65 (q66.cells (n := 3) rfl) rfl ⟨fun _ _ => rfl, rfl⟩))
        · intro L67 w68 hi69
          have hE70 := hi69.ex
          have hE70z := Ex.size hE70
          obtain ⟨_, _, _, hx71, -, -, -, rfl⟩ := hi69.dep 0 28 rfl rfl
          have q72 := RdS.ex good_Str q49 hE70
          have q73 := RdS.ex good_Idx q51 hE70
          refine OpR.op' rfl (yl_call Try.en17 rfl (opvs_cons hx71 opvs_nil) (Cal.mono (c_l_toTable p_0 (RdS.up q72 good_Str) (RdS.up q73 good_Idx) ((szok_Table pre0 (by decide) (dec_f hb28)).1)) ?_))
          rintro v77 w74 ⟨A75, c75, lo75, hi75, A76, c76, lo76, hi76, rfl, h75, h76, hrn79, hrn80, hrn81, hE78⟩
          exact ⟨⟨A75, c75, lo75, hi75, A76, c76, lo76, hi76, rfl, h75, h76, hrn79, hrn80, hrn81⟩, hE78⟩
        · intro L82 w83 hi84
          have hE85 := hi84.ex
          have hE85z := Ex.size hE85
          have hx86 := hi84.old 1 _ rfl rfl
          exact OpR.op' rfl (Yl.sameI (yl_move rfl hx86 ⟨fun _ _ => rfl, rfl⟩))
        · intro L87 w88 hi89
          have hE90 := hi89.ex
          have hE90z := Ex.size hE90
          have hx91 := hi89.old 5 _ rfl rfl
          have q92 := Box.ex q55 hE90
          exact OpR.op' rfl (Yl.sameI (yl_loadN (cs := [.slice A3 p_2.Vals.length c3]) Try.ty27 rfl hx91 (q92.cells (n := 1) rfl) rfl ⟨fun _ _ => rfl, rfl⟩))
        · intro L93 w94 hi95
          have hE96 := hi95.ex
          have hE96z := Ex.size hE96
          obtain ⟨_, _, _, hx97, -, -, -, rfl⟩ := hi95.dep 3 31 rfl rfl
          have q98 := RdS.ex good_Str q56 hE96
          refine OpR.op' rfl (yl_call Try.en34 rfl (opvs_cons hx97 opvs_nil) (Cal.mono (c_l_toRow p_2 (RdS.up q98 good_Str) ((szok_Row pre2 (szok_Table pre0 (by decide) (dec_f hb28)).2 (dec_f hb40)).1)) ?_))
          rintro v101 w99 ⟨A100, c100, lo100, hi100, rfl, h100, hrn103, hE102⟩
          exact ⟨⟨A100, c100, lo100, hi100, rfl, h100, hrn103⟩, hE102⟩
        · intro L104 w105 hi106
          have hE107 := hi106.ex
          have hE107z := Ex.size hE107
          obtain ⟨lo109, hh110, _, hx108, hr111, hr112, hr113, A53_114, c53_115, lo53_116, hi53_117, A54_118, c54_119, lo54_120, hi54_121, rfl, h122, h123, hrn124, hrn125, hrn126⟩ := hi106.dep 1 29 rfl rfl
          obtain ⟨_, _, _, hx127, -, -, -, rfl⟩ := hi106.dep 2 30 rfl rfl
          obtain ⟨lo129, hh130, _, hx128, hr131, hr132, hr133, A58_134, c58_135, lo58_136, hi58_137, rfl, h138, hrn139⟩ := hi106.dep 4 32 rfl rfl
          have q140 := OwnL.rd good_Str h122
          have q141 := OwnL.rd good_Idx h123
          have q142 := OwnL.rd good_Str h138
          refine OpR.op' rfl (yl_call Try.en33 rfl (opvs_cons hx108 (opvs_cons hx127 (opvs_cons hx128 opvs_nil))) (Cal.mono (c_s_IdxKey p_0 p_1 p_2 (RdS.up q140 good_Str) (RdS.up q141 good_Idx) (RdS.up q142 good_Str) ((szok_Table pre0 (by decide) (dec_f hb28)).1) (by unfold okS; omega) ((szok_Row pre2 (szok_Table pre0 (by decide) (dec_f hb28)).2 (dec_f hb40)).1)) ?_))
          rintro v145 w143 ⟨rfl, ho144, hE146⟩
          exact ⟨⟨rfl, ho144⟩, hE146⟩
        · intro L147 w148 hi149
          have hE150 := hi149.ex
          have hE150z := Ex.size hE150
          obtain ⟨lo152, hh153, _, hx151, hr154, hr155, hr156, rfl, h157⟩ := hi149.dep 5 33 rfl rfl
          exact OpR.op' rfl (Yl.sameI (yl_move rfl hx151 ⟨fun _ _ => rfl, rfl⟩))
        · intro L158 w159 hi160
          have hE161 := hi160.ex
          have hE161z := Ex.size hE161
          obtain ⟨_, _, _, hx162, -, -, -, rfl⟩ := hi160.dep 6 27 rfl rfl
          exact OpR.op' rfl (Yl.sameI (yl_extract rfl hx162 rfl ⟨fun _ _ => rfl, rfl⟩))
        · intro L163 w164 hi165
          have hE166 := hi165.ex
          have hE166z := Ex.size hE166
          obtain ⟨_, _, _, hx167, -, -, -, rfl⟩ := hi165.dep 6 27 rfl rfl
          exact OpR.op' rfl (Yl.sameI (yl_extract rfl hx167 rfl ⟨fun _ _ => rfl, rfl⟩))
        · intro L168 w169 hi170
          have hE171 := hi170.ex
          have hE171z := Ex.size hE171
          obtain ⟨_, _, _, hx172, -, -, -, rfl⟩ := hi170.dep 7 34 rfl rfl
          exact OpR.op' rfl (Yl.sameI (yl_assign rfl hx172 ⟨fun _ _ => rfl, rfl⟩))
        · intro L173 w174 hi175
          have hE176 := hi175.ex
          have hE176z := Ex.size hE176
          obtain ⟨_, _, _, hx177, -, -, -, rfl⟩ := hi175.dep 8 35 rfl rfl
          exact OpR.op' rfl (Yl.sameI (yl_assign rfl hx177 ⟨fun _ _ => rfl, rfl⟩))
        · intro fl181 fh182 L178 w179 hp180
          have hE183 := hp180.ex
          have hE183z := Ex.size hE183
          have hx184 := hp180.old 1 _ rfl rfl
          have hx185 := hp180.old 3 _ rfl rfl
          have hx186 := hp180.old 5 _ rfl rfl
          have hr188 := hp180.rng 1 rfl
          obtain ⟨_, hx187, A53_189, c53_190, lo53_191, hi53_192, A54_193, c54_194, lo54_195, hi54_196, rfl, h197, h198, hrn199, hrn200, hrn201⟩ := hp180.new 1 29 rfl rfl
          have hr203 := hp180.rng 4 rfl
          have hsp204 := hp180.sep 1 4 rfl rfl rfl
          obtain ⟨_, hx202, A58_205, c58_206, lo58_207, hi58_208, rfl, h209, hrn210⟩ := hp180.new 4 32 rfl rfl
          obtain ⟨_, hx211, rfl⟩ := hp180.new 9 8 rfl rfl
          obtain ⟨_, hx212, rfl⟩ := hp180.new 10 9 rfl rfl
          refine SeqR.done ?_
          refine tn ?_
          refine CW.sub (Sub.cons (d := 1) hx184 (Sub.cons (d := 3) hx185 (Sub.cons (d := 5) hx186 (Sub.cons (d := 8) hx211 (Sub.cons (d := 9) hx212 (Sub.nil _)))))) ?_
          refine CW.seq ?_
          refine CW.region ?_
          have q213 := Box.ex q47 hE183
          refine SeqR.d1 rfl rfl rfl (yl_loadN (cs := [.string (bs (p_0.Name)), .slice A1 p_0.Cols.length c1, .slice A2 p_0.Idxs.length c2]) Try.ty25 rfl rfl (q213.cells (n := 3) rfl) rfl ?_)
          have q214 := RdS.ex good_Str q49 hE183
          have q215 := RdS.ex good_Idx q51 hE183
          refine SeqR.d1 rfl rfl rfl (yl_call Try.en17 rfl (opvs_cons rfl opvs_nil) (Cal.mono (c_l_toTable p_0 (RdS.up q214 good_Str) (RdS.up q215 good_Idx) ((szok_Table pre0 (by decide) (dec_f hb28)).1)) ?_))
          rintro v219 w216 ⟨A217, c217, lo217, hi217, A218, c218, lo218, hi218, rfl, h217, h218, hrn221, hrn222, hrn223, hE220⟩
          have hE220z := Ex.size hE220
          refine SeqR.d1 rfl rfl rfl (yl_alloc Try.ty35 (cs := [.string (bs (([] : Str))), .slice none 0 0, .slice none 0 0]) rfl rfl ?_)
          intro b224 w225 hs226 hz227 hB228 hE229
          refine SeqR.u rfl rfl (yl_store (vs := [.string (bs (p_0.Name)), .slice A217 p_0.Cols.length c217, .slice A218 p_0.Idxs.length c218]) Try.ty35 rfl rfl rfl rfl rfl rfl hB228 (Nat.le_of_ble_eq_true rfl) ?_)
          intro w230 hB231 hO232
          have hB231 : Box w230 b224 35 [.string (bs (p_0.Name)), .slice A217 p_0.Cols.length c217, .slice A218 p_0.Idxs.length c218] := hB231
          have hO232z := hO232.size
          refine SeqR.done ?_
          refine tn ?_
          refine CW.seq ?_
          refine CW.region ?_
          have q233 := Box.ex q55 hE183
          have q234 := Box.ex q233 hE220
          have q235 := Box.ex q234 hE229
          have q236 := Box.only q235 hO232 (by omega)
          refine SeqR.d1 rfl rfl rfl (yl_loadN (cs := [.slice A3 p_2.Vals.length c3]) Try.ty27 rfl rfl (q236.cells (n := 1) rfl) rfl ?_)
          have q237 := RdS.ex good_Str q56 hE183
          have q238 := RdS.ex good_Str q237 hE220
          have q239 := RdS.ex good_Str q238 hE229
          have q240 := RdS.only good_Str q239 hO232 (by simp only [Iv]; omega)
          refine SeqR.d1 rfl rfl rfl (yl_call Try.en34 rfl (opvs_cons rfl opvs_nil) (Cal.mono (c_l_toRow p_2 (RdS.up q240 good_Str) ((szok_Row pre2 (szok_Table pre0 (by decide) (dec_f hb28)).2 (dec_f hb40)).1)) ?_))
          rintro v243 w241 ⟨A242, c242, lo242, hi242, rfl, h242, hrn245, hE244⟩
          have hE244z := Ex.size hE244
          refine SeqR.d1 rfl rfl rfl (yl_alloc Try.ty37 (cs := [.slice none 0 0]) rfl rfl ?_)
          intro b246 w247 hs248 hz249 hB250 hE251
          refine SeqR.u rfl rfl (yl_store (vs := [.slice A242 p_2.Vals.length c242]) Try.ty37 rfl rfl rfl rfl rfl rfl hB250 (Nat.le_of_ble_eq_true rfl) ?_)
          intro w252 hB253 hO254
          have hB253 : Box w252 b246 37 [.slice A242 p_2.Vals.length c242] := hB253
          have hO254z := hO254.size
          refine SeqR.done ?_
          refine tn ?_
          refine CW.seq ?_
          refine CW.region ?_
          have q255 := Box.ex hB231 hE244
          have q256 := Box.ex q255 hE251
          have q257 := Box.only q256 hO254 (by omega)
          refine SeqR.d1 rfl rfl rfl (yl_loadN (cs := [.string (bs (p_0.Name)), .slice A217 p_0.Cols.length c217, .slice A218 p_0.Idxs.length c218]) Try.ty35 rfl rfl (q257.cells (n := 3) rfl) rfl ?_)
          refine SeqR.d1 rfl rfl rfl (yl_move rfl rfl ?_)
          refine SeqR.d1 rfl rfl rfl (yl_loadN (cs := [.slice A242 p_2.Vals.length c242]) Try.ty37 rfl rfl (hB253.cells (n := 1) rfl) rfl ?_)
          have q259 := OwnL.ex good_Str h217 hE229
          have q260 := OwnL.only good_Str q259 hO232 (by omega)
          have q261 := OwnL.ex good_Str q260 hE244
          have q262 := OwnL.ex good_Str q261 hE251
          have q263 := OwnL.only good_Str q262 hO254 (by omega)
          have q258 := OwnL.rd good_Str q263
          have q265 := OwnL.ex good_Idx h218 hE229
          have q266 := OwnL.only good_Idx q265 hO232 (by omega)
          have q267 := OwnL.ex good_Idx q266 hE244
          have q268 := OwnL.ex good_Idx q267 hE251
          have q269 := OwnL.only good_Idx q268 hO254 (by omega)
          have q264 := OwnL.rd good_Idx q269
          have q271 := OwnL.ex good_Str h242 hE251
          have q272 := OwnL.only good_Str q271 hO254 (by omega)
          have q270 := OwnL.rd good_Str q272
          refine SeqR.d1 rfl rfl rfl (yl_call Try.en35 rfl (opvs_cons rfl (opvs_cons rfl (opvs_cons rfl opvs_nil))) (Cal.mono (c_i_IdxKey p_0 p_1 p_2 (RdS.up q258 good_Str) (RdS.up q264 good_Idx) (RdS.up q270 good_Str) ((szok_Table pre0 (by decide) (dec_f hb28)).1) (by unfold okS; omega) ((szok_Row pre2 (szok_Table pre0 (by decide) (dec_f hb28)).2 (dec_f hb40)).1)) ?_))
          rintro v275 w273 ⟨rfl, ho274, hE276⟩
          have hE276z := Ex.size hE276
          refine SeqR.d1 rfl rfl rfl (yl_move rfl rfl ?_)
          refine SeqR.d1 rfl rfl rfl (yl_extract rfl rfl rfl ?_)
          refine SeqR.d1 rfl rfl rfl (yl_extract rfl rfl rfl ?_)
          refine SeqR.d1 rfl rfl rfl (yl_assign rfl rfl ?_)
          refine SeqR.d1 rfl rfl rfl (yl_assign rfl rfl ?_)
          refine SeqR.done ?_
          refine tn ?_
          refine CW.seq ?_
          refine CW.seq ?_
          refine CW.region ?_
          refine SeqR.d1 rfl rfl rfl (yl_move rfl rfl ?_)
          refine SeqR.d1 rfl rfl rfl (yl_move rfl rfl ?_)
          refine SeqR.d1 rfl rfl rfl (yl_sneq (a := ((i_IdxKey p_0 p_1 p_2).1)) (b := ((s_IdxKey p_0 p_1 p_2).1)) rfl rfl rfl ?_)
          refine SeqR.d1 rfl rfl rfl (yl_move rfl rfl ?_)
          refine bcase (((i_IdxKey p_0 p_1 p_2).1) == ((s_IdxKey p_0 p_1 p_2).1)) (fun hb277 => ?_) (fun hb277 => ?_)
          · skip
            refine SeqR.y rfl rfl rfl rfl rfl (not_t hb277) (yl_move rfl rfl ?_)
            refine SeqR.y rfl rfl rfl rfl rfl (not_t hb277) (yl_move rfl rfl ?_)
            refine SeqR.y rfl rfl rfl rfl rfl (not_t hb277) (yl_bneq Try.un4 rfl rfl rfl ?_)
            refine SeqR.d1 rfl rfl rfl (yl_pick_f rfl rfl (not_t hb277) rfl ?_)
            refine SeqR.done ?_
            refine tn ?_
            refine bcase (((i_IdxKey p_0 p_1 p_2).2) == ((s_IdxKey p_0 p_1 p_2).2)) (fun hb278 => ?_) (fun hb278 => ?_)
            · skip
              refine CW.cond_f rfl (not_t hb278) ?_
              refine CW.skip ?_
              refine tn ?_
              refine CW.seq ?_
              refine CW.seq ?_
              have q279 := Box.ex q257 hE276
              have q280 := Box.ex q213 hE220
              have q281 := Box.ex q280 hE229
              have q282 := Box.only q281 hO232 (by omega)
              have q283 := Box.ex q282 hE244
              have q284 := Box.ex q283 hE251
              have q285 := Box.only q284 hO254 (by omega)
              have q286 := Box.ex q285 hE276
              have q287 := RdS.ex good_Str q214 hE220
              have q288 := RdS.ex good_Str q287 hE229
              have q289 := RdS.only good_Str q288 hO232 (by simp only [Iv]; omega)
              have q290 := RdS.ex good_Str q289 hE244
              have q291 := RdS.ex good_Str q290 hE251
              have q292 := RdS.only good_Str q291 hO254 (by simp only [Iv]; omega)
              have q293 := RdS.ex good_Str q292 hE276
              have q294 := RdS.ex good_Idx q215 hE220
              have q295 := RdS.ex good_Idx q294 hE229
              have q296 := RdS.only good_Idx q295 hO232 (by simp only [Iv]; omega)
              have q297 := RdS.ex good_Idx q296 hE244
              have q298 := RdS.ex good_Idx q297 hE251
              have q299 := RdS.only good_Idx q298 hO254 (by simp only [Iv]; omega)
              have q300 := RdS.ex good_Idx q299 hE276
              have q305 := OwnL.ex good_Str q263 hE276
              have q304 := OwnL.rd good_Str q305
              have q307 := OwnL.ex good_Idx q269 hE276
              have q306 := OwnL.rd good_Idx q307
              refine CW.drawsI 5 (vgetI [DetI (.agg #[.string (bs (p_0.Name)), .slice A217 p_0.Cols.length c217, .slice A218 p_0.Idxs.length c218]), DetI (.agg #[.string (bs (p_0.Name)), .slice A1 p_0.Cols.length c1, .slice A2 p_0.Idxs.length c2]), fun lo hi v wq => ∃ A302 c302 lo302 hi302 A303 c303 lo303 hi303, v = .agg #[.string (bs (p_0.Name)), .slice A302 p_0.Cols.length c302, .slice A303 p_0.Idxs.length c303] ∧ OwnL wq lo302 hi302 9 1 (RF e_Str) A302 p_0.Cols.length c302 p_0.Cols ∧ OwnL wq lo303 hi303 132 3 (RF e_Idx) A303 p_0.Idxs.length c303 p_0.Idxs ∧ (lo ≤ lo302 ∧ lo302 ≤ hi302 ∧ hi302 ≤ hi) ∧ (lo ≤ lo303 ∧ lo303 ≤ hi303 ∧ hi303 ≤ hi) ∧ (hi302 ≤ lo303 ∨ hi303 ≤ lo302), DetI (.bool ((l_eqTable p_0 p_0))), DetI (.bool (!(l_eqTable p_0 p_0)))]) Try.follows rfl rfl rfl rfl rfl rfl (vgetI_stable ⟨StableI.det _, StableI.det _, (fun _ _ _ _ _ ⟨A302, c302, lo302, hi302, A303, c303, lo303, hi303, hv, h302, h303, hr0, hr1, hr2⟩ e => ⟨A302, c302, lo302, hi302, A303, c303, lo303, hi303, hv, OwnL.ex good_Str h302 e, OwnL.ex good_Idx h303 e, hr0, hr1, hr2⟩), StableI.det _, StableI.det _, trivial⟩) ⟨?_, ?_, ?_, ?_, ?_, trivial⟩ ?_
              · intro L309 w310 hi311
                have hE312 := hi311.ex
                have hE312z := Ex.size hE312
                have hx313 := hi311.old 10 _ rfl rfl
                have q314 := Box.ex q279 hE312
                exact OpR.op' rfl (Yl.sameI (yl_loadN (cs := [.string (bs (p_0.Name)), .slice A217 p_0.Cols.length c217, .slice A218 p_0.Idxs.length c218]) Try.ty35 rfl hx313 (q314.cells (n := 3) rfl) rfl ⟨fun _ _ => rfl, rfl⟩))
              · intro L315 w316 hi317
                have hE318 := hi317.ex
                have hE318z := Ex.size hE318
                have hx319 := hi317.old 3 _ rfl rfl
                have q320 := Box.ex q286 hE318
                exact OpR.op' rfl (Yl.sameI (yl_loadN (cs := [.string (bs (p_0.Name)), .slice A1 p_0.Cols.length c1, .slice A2 p_0.Idxs.length c2]) Try.ty25 rfl hx319 (q320.cells (n := 3) rfl) rfl ⟨fun _ _ => rfl, rfl⟩))
              · intro L321 w322 hi323
                have hE324 := hi323.ex
                have hE324z := Ex.size hE324
                obtain ⟨_, _, _, hx325, -, -, -, rfl⟩ := hi323.dep 1 56 rfl rfl
                have q326 := RdS.ex good_Str q293 hE324
                have q327 := RdS.ex good_Idx q300 hE324
                refine OpR.op' rfl (yl_call Try.en17 rfl (opvs_cons hx325 opvs_nil) (Cal.mono (c_l_toTable p_0 (RdS.up q326 good_Str) (RdS.up q327 good_Idx) ((szok_Table pre0 (by decide) (dec_f hb28)).1)) ?_))
                rintro v331 w328 ⟨A329, c329, lo329, hi329, A330, c330, lo330, hi330, rfl, h329, h330, hrn333, hrn334, hrn335, hE332⟩
                exact ⟨⟨A329, c329, lo329, hi329, A330, c330, lo330, hi330, rfl, h329, h330, hrn333, hrn334, hrn335⟩, hE332⟩
              · intro L336 w337 hi338
                have hE339 := hi338.ex
                have hE339z := Ex.size hE339
                obtain ⟨_, _, _, hx340, -, -, -, rfl⟩ := hi338.dep 0 55 rfl rfl
                obtain ⟨lo342, hh343, _, hx341, hr344, hr345, hr346, A302_347, c302_348, lo302_349, hi302_350, A303_351, c303_352, lo303_353, hi303_354, rfl, h355, h356, hrn357, hrn358, hrn359⟩ := hi338.dep 2 57 rfl rfl
                have q361 := OwnL.ex good_Str q305 hE339
                have q360 := OwnL.rd good_Str q361
                have q363 := OwnL.ex good_Idx q307 hE339
                have q362 := OwnL.rd good_Idx q363
                have q364 := OwnL.rd good_Str h355
                have q365 := OwnL.rd good_Idx h356
                refine OpR.op' rfl (yl_call Try.en20 rfl (opvs_cons hx340 (opvs_cons hx341 opvs_nil)) (Cal.mono (c_l_eqTable p_0 p_0 (RdS.up q360 good_Str) (RdS.up q362 good_Idx) (RdS.up q364 good_Str) (RdS.up q365 good_Idx)) ?_))
                rintro v367 w366 ⟨rfl, hE368⟩
                exact ⟨rfl, hE368⟩
              · intro L369 w370 hi371
                have hE372 := hi371.ex
                have hE372z := Ex.size hE372
                obtain ⟨_, _, _, hx373, -, -, -, rfl⟩ := hi371.dep 3 58 rfl rfl
                exact OpR.op' rfl (Yl.sameI (yl_not rfl hx373 ⟨fun _ _ => rfl, rfl⟩))
              · intro fl377 fh378 L374 w375 hp376
                have hE379 := hp376.ex
                have hE379z := Ex.size hE379
                have hx380 := hp376.old 5 _ rfl rfl
                have hx381 := hp376.old 11 _ rfl rfl
                have hr383 := hp376.rng 2 rfl
                obtain ⟨_, hx382, A302_384, c302_385, lo302_386, hi302_387, A303_388, c303_389, lo303_390, hi303_391, rfl, h392, h393, hrn394, hrn395, hrn396⟩ := hp376.new 2 57 rfl rfl
                obtain ⟨_, hx397, rfl⟩ := hp376.new 4 59 rfl rfl
                refine SeqR.done ?_
                refine tn ?_
                refine CW.sub (Sub.cons (d := 5) hx380 (Sub.cons (d := 11) hx381 (Sub.cons (d := 59) hx397 (Sub.nil _)))) ?_
                refine bcase (l_eqTable p_0 p_0) (fun hb398 => ?_) (fun hb398 => ?_)
                · skip
                  refine CW.cond_f rfl (not_t hb398) ?_
                  refine CW.skip ?_
                  refine tn ?_
                  refine CW.seq ?_
                  refine CW.seq ?_
                  have q399 := Box.ex hB253 hE276
                  have q400 := Box.ex q399 hE379
                  have q401 := Box.ex q236 hE244
                  have q402 := Box.ex q401 hE251
                  have q403 := Box.only q402 hO254 (by omega)
                  have q404 := Box.ex q403 hE276
                  have q405 := Box.ex q404 hE379
                  have q406 := RdS.ex good_Str q240 hE244
                  have q407 := RdS.ex good_Str q406 hE251
                  have q408 := RdS.only good_Str q407 hO254 (by simp only [Iv]; omega)
                  have q409 := RdS.ex good_Str q408 hE276
                  have q410 := RdS.ex good_Str q409 hE379
                  have q414 := OwnL.ex good_Str q272 hE276
                  have q415 := OwnL.ex good_Str q414 hE379
                  have q413 := OwnL.rd good_Str q415
                  refine CW.drawsI 5 (vgetI [DetI (.agg #[.slice A242 p_2.Vals.length c242]), DetI (.agg #[.slice A3 p_2.Vals.length c3]), fun lo hi v wq => ∃ A412 c412 lo412 hi412, v = .agg #[.slice A412 p_2.Vals.length c412] ∧ OwnL wq lo412 hi412 9 1 (RF e_Str) A412 p_2.Vals.length c412 p_2.Vals ∧ (lo ≤ lo412 ∧ lo412 ≤ hi412 ∧ hi412 ≤ hi), DetI (.bool ((l_eqRow p_2 p_2))), DetI (.bool (!(l_eqRow p_2 p_2)))]) Try.follows rfl rfl rfl rfl rfl rfl (vgetI_stable ⟨StableI.det _, StableI.det _, (fun _ _ _ _ _ ⟨A412, c412, lo412, hi412, hv, h412, hr0⟩ e => ⟨A412, c412, lo412, hi412, hv, OwnL.ex good_Str h412 e, hr0⟩), StableI.det _, StableI.det _, trivial⟩) ⟨?_, ?_, ?_, ?_, ?_, trivial⟩ ?_
                  · intro L417 w418 hi419
                    have hE420 := hi419.ex
                    have hE420z := Ex.size hE420
                    have hx421 := hi419.old 11 _ rfl rfl
                    have q422 := Box.ex q400 hE420
                    exact OpR.op' rfl (Yl.sameI (yl_loadN (cs := [.slice A242 p_2.Vals.length c242]) Try.ty37 rfl hx421 (q422.cells (n := 1) rfl) rfl ⟨fun _ _ => rfl, rfl⟩))
                  · intro L423 w424 hi425
                    have hE426 := hi425.ex
                    have hE426z := Ex.size hE426
                    have hx427 := hi425.old 5 _ rfl rfl
                    have q428 := Box.ex q405 hE426
                    exact OpR.op' rfl (Yl.sameI (yl_loadN (cs := [.slice A3 p_2.Vals.length c3]) Try.ty27 rfl hx427 (q428.cells (n := 1) rfl) rfl ⟨fun _ _ => rfl, rfl⟩))
                  · intro L429 w430 hi431
                    have hE432 := hi431.ex
                    have hE432z := Ex.size hE432
                    obtain ⟨_, _, _, hx433, -, -, -, rfl⟩ := hi431.dep 1 61 rfl rfl
                    have q434 := RdS.ex good_Str q410 hE432
                    refine OpR.op' rfl (yl_call Try.en34 rfl (opvs_cons hx433 opvs_nil) (Cal.mono (c_l_toRow p_2 (RdS.up q434 good_Str) ((szok_Row pre2 (szok_Table pre0 (by decide) (dec_f hb28)).2 (dec_f hb40)).1)) ?_))
                    rintro v437 w435 ⟨A436, c436, lo436, hi436, rfl, h436, hrn439, hE438⟩
                    exact ⟨⟨A436, c436, lo436, hi436, rfl, h436, hrn439⟩, hE438⟩
                  · intro L440 w441 hi442
                    have hE443 := hi442.ex
                    have hE443z := Ex.size hE443
                    obtain ⟨_, _, _, hx444, -, -, -, rfl⟩ := hi442.dep 0 60 rfl rfl
                    obtain ⟨lo446, hh447, _, hx445, hr448, hr449, hr450, A412_451, c412_452, lo412_453, hi412_454, rfl, h455, hrn456⟩ := hi442.dep 2 62 rfl rfl
                    have q458 := OwnL.ex good_Str q415 hE443
                    have q457 := OwnL.rd good_Str q458
                    have q459 := OwnL.rd good_Str h455
                    refine OpR.op' rfl (yl_call Try.en36 rfl (opvs_cons hx444 (opvs_cons hx445 opvs_nil)) (Cal.mono (c_l_eqRow p_2 p_2 (RdS.up q457 good_Str) (RdS.up q459 good_Str)) ?_))
                    rintro v461 w460 ⟨rfl, hE462⟩
                    exact ⟨rfl, hE462⟩
                  · intro L463 w464 hi465
                    have hE466 := hi465.ex
                    have hE466z := Ex.size hE466
                    obtain ⟨_, _, _, hx467, -, -, -, rfl⟩ := hi465.dep 3 63 rfl rfl
                    exact OpR.op' rfl (Yl.sameI (yl_not rfl hx467 ⟨fun _ _ => rfl, rfl⟩))
                  · intro fl471 fh472 L468 w469 hp470
                    have hE473 := hp470.ex
                    have hE473z := Ex.size hE473
                    have hr475 := hp470.rng 2 rfl
                    obtain ⟨_, hx474, A412_476, c412_477, lo412_478, hi412_479, rfl, h480, hrn481⟩ := hp470.new 2 62 rfl rfl
                    obtain ⟨_, hx482, rfl⟩ := hp470.new 4 64 rfl rfl
                    refine SeqR.done ?_
                    refine tn ?_
                    refine CW.sub (Sub.cons (d := 64) hx482 (Sub.nil _)) ?_
                    refine bcase (l_eqRow p_2 p_2) (fun hb483 => ?_) (fun hb483 => ?_)
                    · skip
                      refine CW.cond_f rfl (not_t hb483) ?_
                      refine CW.skip ?_
                      refine tn ?_
                      refine CW.seq ?_
                      refine CW.region ?_
                      refine SeqR.d1 rfl rfl rfl (yl_assign rfl rfl ?_)
                      refine SeqR.done ?_
                      refine tn ?_
                      refine CW.ret ?_
                      refine rr rfl (.cons rfl .nil) ?_
                      have hM484 : (l_FnExactIdxKey p_0 p_1 p_2) = (true) := by simp only [l_FnExactIdxKey, hb16, hb28, hb40, hb277, hb278, hb398, hb483, cond_true, cond_false, loopE_done, loopE_ret]
                      rw [hM484]
                      have q485 := Ex.trans (Ex.refl w) hE9
                      have q486 := Ex.trans q485 hE15
                      have q487 := Ex.trans q486 hE27
                      have q488 := Ex.trans q487 hE39
                      have q489 := Ex.trans q488 hE183
                      have q490 := Ex.trans q489 hE220
                      have q491 := Ex.trans q490 hE229
                      have q492 := Below.only q491 hO232 (by omega)
                      have q493 := Ex.trans q492 hE244
                      have q494 := Ex.trans q493 hE251
                      have q495 := Below.only q494 hO254 (by omega)
                      have q496 := Ex.trans q495 hE276
                      have q497 := Ex.trans q496 hE379
                      have q498 := Ex.trans q497 hE473
                      exact ⟨rfl, q498⟩
                    · skip
                      refine CW.cond_t rfl (not_f hb483) ?_
                      refine CW.seq ?_
                      refine CW.region ?_
                      refine SeqR.d1 rfl rfl rfl (yl_assign rfl rfl ?_)
                      refine SeqR.done ?_
                      refine tn ?_
                      refine CW.ret ?_
                      refine tr ?_
                      refine rr rfl (.cons rfl .nil) ?_
                      have hM499 : (l_FnExactIdxKey p_0 p_1 p_2) = (false) := by simp only [l_FnExactIdxKey, hb16, hb28, hb40, hb277, hb278, hb398, hb483, cond_true, cond_false, loopE_done, loopE_ret]
                      rw [hM499]
                      have q500 := Ex.trans (Ex.refl w) hE9
                      have q501 := Ex.trans q500 hE15
                      have q502 := Ex.trans q501 hE27
                      have q503 := Ex.trans q502 hE39
                      have q504 := Ex.trans q503 hE183
                      have q505 := Ex.trans q504 hE220
                      have q506 := Ex.trans q505 hE229
                      have q507 := Below.only q506 hO232 (by omega)
                      have q508 := Ex.trans q507 hE244
                      have q509 := Ex.trans q508 hE251
                      have q510 := Below.only q509 hO254 (by omega)
                      have q511 := Ex.trans q510 hE276
                      have q512 := Ex.trans q511 hE379
                      have q513 := Ex.trans q512 hE473
                      exact ⟨rfl, q513⟩
                · skip
                  refine CW.cond_t rfl (not_f hb398) ?_
                  refine CW.seq ?_
                  refine CW.region ?_
                  refine SeqR.d1 rfl rfl rfl (yl_assign rfl rfl ?_)
                  refine SeqR.done ?_
                  refine tn ?_
                  refine CW.ret ?_
                  refine tr ?_
                  refine rr rfl (.cons rfl .nil) ?_
                  have hM514 : (l_FnExactIdxKey p_0 p_1 p_2) = (false) := by simp only [l_FnExactIdxKey, hb16, hb28, hb40, hb277, hb278, hb398, cond_true, cond_false, loopE_done, loopE_ret]
                  rw [hM514]
                  have q515 := Ex.trans (Ex.refl w) hE9
                  have q516 := Ex.trans q515 hE15
                  have q517 := Ex.trans q516 hE27
                  have q518 := Ex.trans q517 hE39
                  have q519 := Ex.trans q518 hE183
                  have q520 := Ex.trans q519 hE220
                  have q521 := Ex.trans q520 hE229
                  have q522 := Below.only q521 hO232 (by omega)
                  have q523 := Ex.trans q522 hE244
                  have q524 := Ex.trans q523 hE251
                  have q525 := Below.only q524 hO254 (by omega)
                  have q526 := Ex.trans q525 hE276
                  have q527 := Ex.trans q526 hE379
                  exact ⟨rfl, q527⟩
            · skip
              refine CW.cond_t rfl (not_f hb278) ?_
              refine CW.seq ?_
              refine CW.region ?_
              refine SeqR.d1 rfl rfl rfl (yl_assign rfl rfl ?_)
              refine SeqR.done ?_
              refine tn ?_
              refine CW.ret ?_
              refine tr ?_
              refine rr rfl (.cons rfl .nil) ?_
              have hM528 : (l_FnExactIdxKey p_0 p_1 p_2) = (false) := by simp only [l_FnExactIdxKey, hb16, hb28, hb40, hb277, hb278, cond_true, cond_false, loopE_done, loopE_ret]
              rw [hM528]
              have q529 := Ex.trans (Ex.refl w) hE9
              have q530 := Ex.trans q529 hE15
              have q531 := Ex.trans q530 hE27
              have q532 := Ex.trans q531 hE39
              have q533 := Ex.trans q532 hE183
              have q534 := Ex.trans q533 hE220
              have q535 := Ex.trans q534 hE229
              have q536 := Below.only q535 hO232 (by omega)
              have q537 := Ex.trans q536 hE244
              have q538 := Ex.trans q537 hE251
              have q539 := Below.only q538 hO254 (by omega)
              have q540 := Ex.trans q539 hE276
              exact ⟨rfl, q540⟩
          · skip
            refine SeqR.z rfl rfl rfl rfl rfl (not_f hb277) ?_
            refine SeqR.z rfl rfl rfl rfl rfl (not_f hb277) ?_
            refine SeqR.z rfl rfl rfl rfl rfl (not_f hb277) ?_
            refine SeqR.d1 rfl rfl rfl (yl_pick_t rfl rfl (not_f hb277) rfl ?_)
            refine SeqR.done ?_
            refine tn ?_
            refine CW.cond_t rfl rfl ?_
            refine CW.seq ?_
            refine CW.region ?_
            refine SeqR.d1 rfl rfl rfl (yl_assign rfl rfl ?_)
            refine SeqR.done ?_
            refine tn ?_
            refine CW.ret ?_
            refine tr ?_
            refine rr rfl (.cons rfl .nil) ?_
            have hM541 : (l_FnExactIdxKey p_0 p_1 p_2) = (false) := by simp only [l_FnExactIdxKey, hb16, hb28, hb40, hb277, cond_true, cond_false, loopE_done, loopE_ret]
            rw [hM541]
            have q542 := Ex.trans (Ex.refl w) hE9
            have q543 := Ex.trans q542 hE15
            have q544 := Ex.trans q543 hE27
            have q545 := Ex.trans q544 hE39
            have q546 := Ex.trans q545 hE183
            have q547 := Ex.trans q546 hE220
            have q548 := Ex.trans q547 hE229
            have q549 := Below.only q548 hO232 (by omega)
            have q550 := Ex.trans q549 hE244
            have q551 := Ex.trans q550 hE251
            have q552 := Below.only q551 hO254 (by omega)
            have q553 := Ex.trans q552 hE276
            exact ⟨rfl, q553⟩
end Go.Proofs.Ytmlfbjlkccnpmaa
