/- Good Row: what each call returns, part 3. -/
import Derived.Test.YtnfjabkdlkejkaaGoodRowC2
set_option linter.unusedVariables false
set_option linter.unusedSimpArgs false
namespace Go.Proofs.Ytnfjabkdlkejkaa
open Go.RowKit Go.X
set_option maxRecDepth 100000 in
set_option maxHeartbeats 2000000 in
theorem c_i_GoodTable {A1 : Option Addr} {c1 : Nat} {A2 : Option Addr} {c2 : Nat} {w : World} (p_0 : DTable) (h1 : RdS w (Iv 0 w.heap.size) (RF e_Str) 1 A1 p_0.Cols.length c1 p_0.Cols) (h2 : RdS w (Iv 0 w.heap.size) (RF e_Idx) 3 A2 p_0.Idxs.length c2 p_0.Idxs) (o3 : ok_Table p_0) : Cal Try.prog 95 #[.agg #[.string (bs (p_0.Name)), .slice A1 p_0.Cols.length c1, .slice A2 p_0.Idxs.length c2]] w fun v w' => v = .bool ((i_GoodTable p_0)) ∧ Ex w w' := by
  have hol4 : p_0.Name.length ≤ 1073741824 := o3.1
  have hol5 := o3.2.1.1
  have hol6 := o3.2.2.1
  refine Cal.of (vs := [.agg #[.string (bs (p_0.Name)), .slice A1 p_0.Cols.length c1, .slice A2 p_0.Idxs.length c2]]) Try.func95 rfl Try.ntmps95 rfl ?_
  refine CW.seq ?_
  refine CW.region ?_
  refine SeqR.d1 rfl rfl rfl (yl_box (cs := [.string (bs (p_0.Name)), .slice A1 p_0.Cols.length c1, .slice A2 p_0.Idxs.length c2]) rfl rfl rfl ?_)
  intro b7 w8 hs9 hz10 hB11 hE12
  refine SeqR.d1 rfl rfl rfl (yl_assign rfl rfl ?_)
  refine SeqR.done ?_
  refine tn ?_
  refine CW.seq ?_
  refine CW.seq ?_
  refine CW.region ?_
  refine SeqR.d1 rfl rfl rfl (yl_fieldAddr Try.fd84_0 rfl rfl ?_)
  refine SeqR.d1 rfl rfl rfl (yl_load1 Try.ty9 rfl rfl ((hB11.cell 0).trans rfl) ?_)
  refine SeqR.d1 rfl rfl rfl (yl_call Try.en120 rfl (opvs_cons rfl (opvs_cons rfl opvs_nil)) (Cal.mono (c_i_areLetters p_0.Name 1 o3.1) ?_))
  rintro v14 w13 ⟨rfl, hE15⟩
  have hE15z := Ex.size hE15
  refine SeqR.d1 rfl rfl rfl (yl_not rfl rfl ?_)
  refine SeqR.d1 rfl rfl rfl (yl_move rfl rfl ?_)
  refine bcase (i_areLetters p_0.Name 1) (fun hb16 => ?_) (fun hb16 => ?_)
  · skip
    refine SeqR.y rfl rfl rfl rfl rfl (not_t hb16) (yl_fieldAddr Try.fd84_1 rfl rfl ?_)
    have q17 := Box.ex hB11 hE15
    refine SeqR.y rfl rfl rfl rfl rfl (not_t hb16) (yl_load1 Try.ty73 rfl rfl ((q17.cell 1).trans rfl) ?_)
    refine SeqR.y rfl rfl rfl rfl rfl (not_t hb16) (yl_len Try.un73 rfl rfl ?_)
    refine SeqR.y rfl rfl rfl rfl rfl (not_t hb16) (yl_call Try.en56 rfl (opvs_cons rfl (opvs_cons rfl (opvs_cons rfl opvs_nil))) (Cal.mono (c_i_within (p_0.Cols.length : Int) 2 4) ?_))
    rintro v19 w18 ⟨rfl, hE20⟩
    have hE20z := Ex.size hE20
    refine SeqR.y rfl rfl rfl rfl rfl (not_t hb16) (yl_not rfl rfl ?_)
    refine SeqR.d1 rfl rfl rfl (yl_pick_f rfl rfl (not_t hb16) rfl ?_)
    refine SeqR.d1 rfl rfl rfl (yl_move rfl rfl ?_)
    refine bcase (i_within (p_0.Cols.length : Int) 2 4) (fun hb21 => ?_) (fun hb21 => ?_)
    · have hb21p := f_within hb21
      refine SeqR.y rfl rfl rfl rfl rfl (not_t hb21) (yl_fieldAddr Try.fd84_2 rfl rfl ?_)
      have q22 := Box.ex q17 hE20
      refine SeqR.y rfl rfl rfl rfl rfl (not_t hb21) (yl_load1 Try.ty82 rfl rfl ((q22.cell 2).trans rfl) ?_)
      refine SeqR.y rfl rfl rfl rfl rfl (not_t hb21) (yl_len Try.un82 rfl rfl ?_)
      refine SeqR.y rfl rfl rfl rfl rfl (not_t hb21) (yl_gtr rfl rfl rfl ?_)
      refine SeqR.d1 rfl rfl rfl (yl_pick_f rfl rfl (not_t hb21) rfl ?_)
      refine SeqR.done ?_
      refine tn ?_
      refine bcase (decide (3 < (p_0.Idxs.length : Int))) (fun hb23 => ?_) (fun hb23 => ?_)
      · have hb23p := dec_t hb23
        refine CW.cond_t rfl hb23 ?_
        refine CW.seq ?_
        refine CW.region ?_
        refine SeqR.d1 rfl rfl rfl (yl_assign rfl rfl ?_)
        refine SeqR.done ?_
        refine tn ?_
        refine CW.ret ?_
        refine tr ?_
        refine rr rfl (.cons rfl .nil) ?_
        have hM24 : (i_GoodTable p_0) = (false) := by simp only [i_GoodTable, hb16, hb21, hb23, cond_true, cond_false, loopE_done, loopE_ret]
        rw [hM24]
        have q25 := Ex.trans (Ex.refl w) hE12
        have q26 := Ex.trans q25 hE15
        have q27 := Ex.trans q26 hE20
        exact ⟨rfl, q27⟩
      · have hb23p := dec_f hb23
        refine CW.cond_f rfl hb23 ?_
        refine CW.skip ?_
        refine tn ?_
        refine CW.seq ?_
        refine CW.seq ?_
        refine CW.region ?_
        refine SeqR.d1 rfl rfl rfl (yl_fieldAddr Try.fd84_1 rfl rfl ?_)
        refine SeqR.d1 rfl rfl rfl (yl_load1 Try.ty73 rfl rfl ((q22.cell 1).trans rfl) ?_)
        refine SeqR.d1 rfl rfl rfl (yl_len Try.un73 rfl rfl ?_)
        refine SeqR.d1 rfl rfl rfl (yl_move rfl rfl ?_)
        refine SeqR.done ?_
        refine tn ?_
        refine CW.block ?_
        have q32 := RdS.ex good_Str h1 hE12
        have q33 := RdS.ex good_Str q32 hE15
        have q34 := RdS.ex good_Str q33 hE20
        have q35 := RdS.ex good_Idx h2 hE12
        have q36 := RdS.ex good_Idx q35 hE15
        have q37 := RdS.ex good_Idx q36 hE20
        have q38 := Ex.trans (Ex.refl w) hE12
        have q39 := Ex.trans q38 hE15
        have q40 := Ex.trans q39 hE20
        refine CW.loop (fun m29 L30 w31 => ∃ (k28 : Nat), m29 = p_0.Cols.length - k28 ∧ k28 ≤ p_0.Cols.length ∧ lkp L30 1 = some (.pointer (some ⟨b7, 0, none⟩)) ∧ lkp L30 25 = some (.slice A1 p_0.Cols.length c1) ∧ lkp L30 26 = some (.int .i64 ((p_0.Cols.length : Int))) ∧ lkp L30 27 = some (.int .i64 ((k28 : Int))) ∧ Box w31 b7 84 [.string (bs (p_0.Name)), .slice A1 p_0.Cols.length c1, .slice A2 p_0.Idxs.length c2] ∧ RdS w31 (Iv 0 w.heap.size) (RF e_Str) 1 A1 p_0.Cols.length c1 p_0.Cols ∧ RdS w31 (Iv 0 w.heap.size) (RF e_Idx) 3 A2 p_0.Idxs.length c2 p_0.Idxs ∧ Ex w w31 ∧ loopM (B_i_GoodTable_0 p_0) (p_0.Cols.length - k28) k28 () = loopM (B_i_GoodTable_0 p_0) (p_0.Cols.length - 0) 0 ()) (p_0.Cols.length - 0) ?_ ?_
        · exact ⟨0, rfl, Nat.zero_le _, rfl, rfl, rfl, rfl, q22, q34, q37, q40, rfl⟩
        · rintro m41 L42 w43 ⟨k28, rfl, hk44, hl46, hl47, hl48, hl49, hf50, hf51, hf52, hf53, hI45⟩
          refine CW.sub (Sub.cons hl46 (Sub.cons hl47 (Sub.cons hl48 (Sub.cons hl49 (Sub.nil _))))) ?_
          have hf50z := Box.lt hf50
          have hf53z := Ex.size hf53
          have hbg54 := RdS.big hf51
          rcases Nat.lt_or_ge k28 p_0.Cols.length with hlt55 | hlt55
          · skip
            refine CW.seq ?_
            refine CW.region ?_
            refine SeqR.d1 rfl rfl rfl (yl_lss rfl rfl rfl ?_)
            refine SeqR.done ?_
            refine tn ?_
            refine CW.seq ?_
            refine CW.cond_t rfl (lt_t hlt55) ?_
            refine CW.skip ?_
            refine tn ?_
            refine CW.seq ?_
            refine CW.block ?_
            refine CW.seq ?_
            refine CW.region ?_
            refine SeqR.d1 rfl rfl rfl (yl_move rfl rfl ?_)
            obtain ⟨eb56, eo56, ec56, eA56, eS56, ebl56, el56, eR56, eC56⟩ := RdS.atD hf51 d_Str (i := k28) (by first | omega | assumption)
            obtain rfl := eR56
            have eC56 : Cells w43 eb56 (eo56 + k28 * 1) [.string (bs ((p_0.Cols.getD k28 d_Str)))] := eC56
            refine SeqR.d1 rfl rfl rfl (yl_indexAddrN Try.un73 Try.ty9 rfl rfl rfl eA56 (by first | omega | assumption | (simp only [IntKind.wrap_i64] at *; omega)) ?_)
            refine SeqR.d1 rfl rfl rfl (yl_load1 Try.ty9 rfl rfl (eC56 0 _ rfl) ?_)
            refine SeqR.d1 rfl rfl rfl (yl_assign rfl rfl ?_)
            refine SeqR.d1 rfl rfl rfl (yl_assign rfl rfl ?_)
            refine SeqR.done ?_
            refine tn ?_
            refine CW.seq ?_
            refine CW.region ?_
            refine SeqR.d1 rfl rfl rfl (yl_move rfl rfl ?_)
            refine SeqR.d1 rfl rfl rfl (yl_call Try.en120 rfl (opvs_cons rfl (opvs_cons rfl opvs_nil)) (Cal.mono (c_i_areLetters (p_0.Cols.getD k28 d_Str) 3 (okL.getD o3.2.1 ok_d_Str _)) ?_))
            rintro v58 w57 ⟨rfl, hE59⟩
            have hE59z := Ex.size hE59
            refine SeqR.d1 rfl rfl rfl (yl_not rfl rfl ?_)
            refine SeqR.d1 rfl rfl rfl (yl_move rfl rfl ?_)
            refine bcase (i_areLetters (p_0.Cols.getD k28 d_Str) 3) (fun hb60 => ?_) (fun hb60 => ?_)
            · skip
              refine SeqR.y rfl rfl rfl rfl rfl (not_t hb60) (yl_fieldAddr Try.fd84_1 rfl rfl ?_)
              have q61 := Box.ex hf50 hE59
              refine SeqR.y rfl rfl rfl rfl rfl (not_t hb60) (yl_load1 Try.ty73 rfl rfl ((q61.cell 1).trans rfl) ?_)
              refine SeqR.y rfl rfl rfl rfl rfl (not_t hb60) (yl_move rfl rfl ?_)
              have q62 := RdS.ex good_Str hf51 hE59
              obtain ⟨A63, c64, he67, h66⟩ := RdS.sl (RdS.drop (RdS.take q62 (k := k28) (by omega)) (k := 0) (by omega))
              have hrc68 := (q62).2.1
              refine SeqR.y rfl rfl rfl rfl rfl (not_t hb60) (yl_sliceR (kl := .i64) (l := 0) (h := k28) Try.un73 Try.ty9 rfl rfl (.inl ⟨rfl, rfl⟩) (.inr ⟨_, rfl, rfl⟩) (by omega) (by omega) he67 ?_)
              refine SeqR.y rfl rfl rfl rfl rfl (not_t hb60) (yl_move rfl rfl ?_)
              refine SeqR.y rfl rfl rfl rfl rfl (not_t hb60) (yl_call Try.en121 rfl (opvs_cons rfl (opvs_cons rfl opvs_nil)) (Cal.mono (c_g_slices_Contains_string (p_0.Cols.take k28) (p_0.Cols.getD k28 d_Str) (RdS.up h66 good_Str) (okL.take o3.2.1 _) (okL.getD o3.2.1 ok_d_Str _)) ?_))
              rintro v70 w69 ⟨rfl, hE71⟩
              have hE71z := Ex.size hE71
              refine SeqR.d1 rfl rfl rfl (yl_pick_f rfl rfl (not_t hb60) rfl ?_)
              refine SeqR.done ?_
              refine tn ?_
              refine bcase (g_slices_Contains_string (p_0.Cols.take k28) (p_0.Cols.getD k28 d_Str)) (fun hb72 => ?_) (fun hb72 => ?_)
              · skip
                refine CW.cond_t rfl hb72 ?_
                refine CW.seq ?_
                refine CW.region ?_
                refine SeqR.d1 rfl rfl rfl (yl_assign rfl rfl ?_)
                refine SeqR.done ?_
                refine tn ?_
                refine CW.ret ?_
                refine br ?_
                refine tr ?_
                refine tr ?_
                have hB74 : B_i_GoodTable_0 p_0 k28 () = .ret false := by simp only [B_i_GoodTable_0, hb16, hb21, hb23, hb60, hb72, cond_true, cond_false, loopE_done, loopE_ret]
                have hL73 : loopM (B_i_GoodTable_0 p_0) (p_0.Cols.length - 0) 0 () = .ret false := hI45.symm.trans (loopM.ret hlt55 hB74)
                refine br ?_
                refine tr ?_
                refine rr rfl (.cons rfl .nil) ?_
                have hM75 : (i_GoodTable p_0) = (false) := by simp only [i_GoodTable, hb16, hb21, hb23, hb60, hb72, hL73, cond_true, cond_false, loopE_done, loopE_ret]
                rw [hM75]
                have q76 := Ex.trans hf53 hE59
                have q77 := Ex.trans q76 hE71
                exact ⟨rfl, q77⟩
              · skip
                refine CW.cond_f rfl hb72 ?_
                refine CW.skip ?_
                refine bn ?_
                refine tn ?_
                refine CW.region ?_
                refine SeqR.d1 rfl rfl rfl (yl_inc rfl rfl rfl (by omega) ?_)
                refine SeqR.d1 rfl rfl rfl (yl_move rfl rfl ?_)
                refine SeqR.done ?_
                refine tn ?_
                have hB78 : B_i_GoodTable_0 p_0 k28 () = .cont () := by simp only [B_i_GoodTable_0, hb16, hb21, hb23, hb60, hb72, cond_true, cond_false, loopE_done, loopE_ret]
                have q79 := Box.ex q61 hE71
                have q80 := RdS.ex good_Str q62 hE71
                have q81 := RdS.ex good_Idx hf52 hE59
                have q82 := RdS.ex good_Idx q81 hE71
                have q83 := Ex.trans hf53 hE59
                have q84 := Ex.trans q83 hE71
                exact ⟨p_0.Cols.length - (k28 + 1), by omega, k28 + 1, rfl, hlt55, rfl, rfl, rfl, rfl, q79, q80, q82, q84, (loopM.cont hlt55 hB78).symm.trans hI45⟩
            · skip
              refine SeqR.z rfl rfl rfl rfl rfl (not_f hb60) ?_
              refine SeqR.z rfl rfl rfl rfl rfl (not_f hb60) ?_
              refine SeqR.z rfl rfl rfl rfl rfl (not_f hb60) ?_
              refine SeqR.z rfl rfl rfl rfl rfl (not_f hb60) ?_
              refine SeqR.z rfl rfl rfl rfl rfl (not_f hb60) ?_
              refine SeqR.z rfl rfl rfl rfl rfl (not_f hb60) ?_
              refine SeqR.d1 rfl rfl rfl (yl_pick_t rfl rfl (not_f hb60) rfl ?_)
              refine SeqR.done ?_
              refine tn ?_
              refine CW.cond_t rfl rfl ?_
              refine CW.seq ?_
              refine CW.region ?_
              refine SeqR.d1 rfl rfl rfl (yl_assign rfl rfl ?_)
              refine SeqR.done ?_
              refine tn ?_
              refine CW.ret ?_
              refine br ?_
              refine tr ?_
              refine tr ?_
              have hB86 : B_i_GoodTable_0 p_0 k28 () = .ret false := by simp only [B_i_GoodTable_0, hb16, hb21, hb23, hb60, cond_true, cond_false, loopE_done, loopE_ret]
              have hL85 : loopM (B_i_GoodTable_0 p_0) (p_0.Cols.length - 0) 0 () = .ret false := hI45.symm.trans (loopM.ret hlt55 hB86)
              refine br ?_
              refine tr ?_
              refine rr rfl (.cons rfl .nil) ?_
              have hM87 : (i_GoodTable p_0) = (false) := by simp only [i_GoodTable, hb16, hb21, hb23, hb60, hL85, cond_true, cond_false, loopE_done, loopE_ret]
              rw [hM87]
              have q88 := Ex.trans hf53 hE59
              exact ⟨rfl, q88⟩
          · skip
            refine CW.seq ?_
            refine CW.region ?_
            refine SeqR.d1 rfl rfl rfl (yl_lss rfl rfl rfl ?_)
            refine SeqR.done ?_
            refine tn ?_
            refine CW.seq ?_
            refine CW.cond_f rfl (lt_f hlt55) ?_
            refine CW.exit ?_
            refine tx ?_
            refine tx ?_
            have hL89 : loopM (B_i_GoodTable_0 p_0) (p_0.Cols.length - 0) 0 () = .done () := hI45.symm.trans (loopM.stop hlt55)
            refine bx ?_
            refine tn ?_
            refine CW.seq ?_
            refine CW.seq ?_
            refine CW.region ?_
            refine SeqR.d1 rfl rfl rfl (yl_fieldAddr Try.fd84_2 rfl rfl ?_)
            refine SeqR.d1 rfl rfl rfl (yl_load1 Try.ty82 rfl rfl ((hf50.cell 2).trans rfl) ?_)
            refine SeqR.d1 rfl rfl rfl (yl_len Try.un82 rfl rfl ?_)
            refine SeqR.d1 rfl rfl rfl (yl_move rfl rfl ?_)
            refine SeqR.done ?_
            refine tn ?_
            refine CW.block ?_
            refine CW.loop (fun m128 L129 w130 => ∃ (k90 : Nat), m128 = p_0.Idxs.length - k90 ∧ k90 ≤ p_0.Idxs.length ∧ lkp L129 1 = some (.pointer (some ⟨b7, 0, none⟩)) ∧ lkp L129 45 = some (.slice A2 p_0.Idxs.length c2) ∧ lkp L129 46 = some (.int .i64 ((p_0.Idxs.length : Int))) ∧ lkp L129 47 = some (.int .i64 ((k90 : Int))) ∧ Box w130 b7 84 [.string (bs (p_0.Name)), .slice A1 p_0.Cols.length c1, .slice A2 p_0.Idxs.length c2] ∧ RdS w130 (Iv 0 w.heap.size) (RF e_Str) 1 A1 p_0.Cols.length c1 p_0.Cols ∧ RdS w130 (Iv 0 w.heap.size) (RF e_Idx) 3 A2 p_0.Idxs.length c2 p_0.Idxs ∧ Ex w w130 ∧ loopM (B_i_GoodTable_1 p_0) (p_0.Idxs.length - k90) k90 () = loopM (B_i_GoodTable_1 p_0) (p_0.Idxs.length - 0) 0 ()) (p_0.Idxs.length - 0) ?_ ?_
            · exact ⟨0, rfl, Nat.zero_le _, rfl, rfl, rfl, rfl, hf50, hf51, hf52, hf53, rfl⟩
            · rintro m131 L132 w133 ⟨k90, rfl, hk134, hl136, hl137, hl138, hl139, hf140, hf141, hf142, hf143, hI135⟩
              refine CW.sub (Sub.cons hl136 (Sub.cons hl137 (Sub.cons hl138 (Sub.cons hl139 (Sub.nil _))))) ?_
              have hf140z := Box.lt hf140
              have hf143z := Ex.size hf143
              have hbg144 := RdS.big hf142
              rcases Nat.lt_or_ge k90 p_0.Idxs.length with hlt145 | hlt145
              · skip
                refine CW.seq ?_
                refine CW.region ?_
                refine SeqR.d1 rfl rfl rfl (yl_lss rfl rfl rfl ?_)
                refine SeqR.done ?_
                refine tn ?_
                refine CW.seq ?_
                refine CW.cond_t rfl (lt_t hlt145) ?_
                refine CW.skip ?_
                refine tn ?_
                refine CW.seq ?_
                refine CW.block ?_
                refine CW.seq ?_
                refine CW.region ?_
                refine SeqR.d1 rfl rfl rfl (yl_move rfl rfl ?_)
                obtain ⟨eb146, eo146, ec146, eA146, eS146, ebl146, el146, eR146, eC146⟩ := RdS.atD hf142 d_Idx (i := k90) (by first | omega | assumption)
                obtain rfl := eR146
                have eC146 : Cells w133 eb146 (eo146 + k90 * 3) [.string (bs ((p_0.Idxs.getD k90 d_Idx).Name)), .int .i64 ((p_0.Idxs.getD k90 d_Idx).Col), .int .i64 ((p_0.Idxs.getD k90 d_Idx).Stage)] := eC146
                refine SeqR.d1 rfl rfl rfl (yl_indexAddrN Try.un82 Try.ty149 rfl rfl rfl eA146 (by first | omega | assumption | (simp only [IntKind.wrap_i64] at *; omega)) ?_)
                refine SeqR.d1 rfl rfl rfl (yl_loadN (cs := [.string (bs ((p_0.Idxs.getD k90 d_Idx).Name)), .int .i64 ((p_0.Idxs.getD k90 d_Idx).Col), .int .i64 ((p_0.Idxs.getD k90 d_Idx).Stage)]) Try.ty149 rfl rfl eC146 rfl ?_)
                refine SeqR.d1 rfl rfl rfl (yl_alloc Try.ty149 (cs := [.string (bs (([] : Str))), .int .i64 (0), .int .i64 (0)]) rfl rfl ?_)
                intro b147 w148 hs149 hz150 hB151 hE152
                refine SeqR.d1 rfl rfl rfl (yl_assign rfl rfl ?_)
                refine SeqR.u rfl rfl (yl_store (vs := [.string (bs ((p_0.Idxs.getD k90 d_Idx).Name)), .int .i64 ((p_0.Idxs.getD k90 d_Idx).Col), .int .i64 ((p_0.Idxs.getD k90 d_Idx).Stage)]) Try.ty149 rfl rfl rfl rfl rfl rfl hB151 (Nat.le_of_ble_eq_true rfl) ?_)
                intro w153 hB154 hO155
                have hB154 : Box w153 b147 149 [.string (bs ((p_0.Idxs.getD k90 d_Idx).Name)), .int .i64 ((p_0.Idxs.getD k90 d_Idx).Col), .int .i64 ((p_0.Idxs.getD k90 d_Idx).Stage)] := hB154
                have hO155z := hO155.size
                refine SeqR.done ?_
                refine tn ?_
                refine CW.seq ?_
                refine bcase (i_areLetters ((p_0.Idxs.getD k90 d_Idx).Name) 1) (fun hb157 => ?_) (fun hb157 => ?_)
                · skip
                  have q159 := Box.ex hf140 hE152
                  have q160 := Box.only q159 hO155 (by omega)
                  refine bcase (i_within ((p_0.Idxs.getD k90 d_Idx).Col) 1 (IntKind.wrap .i64 ((p_0.Cols.length : Int) - 1))) (fun hb162 => ?_) (fun hb162 => ?_)
                  · have hb162p := f_within hb162
                    have q164 := Box.ex hf140 hE152
                    have q165 := Box.only q164 hO155 (by omega)
                    refine bcase (i_isStage ((p_0.Idxs.getD k90 d_Idx).Stage)) (fun hb168 => ?_) (fun hb168 => ?_)
                    · skip
                      have q170 := Box.ex hf140 hE152
                      have q171 := Box.only q170 hO155 (by omega)
                      refine bcase (decide (0 < (k90 : Int))) (fun hb174 => ?_) (fun hb174 => ?_)
                      · have hb174p := dec_t hb174
                        have q176 := Box.ex hf140 hE152
                        have q177 := Box.only q176 hO155 (by omega)
                        have q180 := RdS.ex good_Idx hf142 hE152
                        have q181 := RdS.only good_Idx q180 hO155 (by simp only [Iv]; omega)
                        obtain ⟨eb182, eo182, ec182, eA182, eS182, ebl182, el182, eR182, eC182⟩ := RdS.atD q181 d_Idx (i := (IntKind.wrap .i64 ((k90 : Int) - 1)).toNat) (by first | omega | assumption | (simp only [IntKind.wrap_i64] at *; omega))
                        obtain rfl := eR182
                        have eC182 : Cells w153 eb182 (eo182 + ((IntKind.wrap .i64 ((k90 : Int) - 1)).toNat) * 3) [.string (bs ((p_0.Idxs.getD ((IntKind.wrap .i64 ((k90 : Int) - 1)).toNat) d_Idx).Name)), .int .i64 ((p_0.Idxs.getD ((IntKind.wrap .i64 ((k90 : Int) - 1)).toNat) d_Idx).Col), .int .i64 ((p_0.Idxs.getD ((IntKind.wrap .i64 ((k90 : Int) - 1)).toNat) d_Idx).Stage)] := eC182
                        refine CW.drawsI 36 (vgetI [DetI (.pointer (some ⟨b147, 0 + 0, none⟩)), DetI (.string (bs ((p_0.Idxs.getD k90 d_Idx).Name))), DetI (.bool ((i_areLetters ((p_0.Idxs.getD k90 d_Idx).Name) 1))), DetI (.bool (!(i_areLetters ((p_0.Idxs.getD k90 d_Idx).Name) 1))), DetI (.bool (!(i_areLetters ((p_0.Idxs.getD k90 d_Idx).Name) 1))), DetI (.pointer (some ⟨b147, 0 + 1, none⟩)), DetI (.int .i64 ((p_0.Idxs.getD k90 d_Idx).Col)), DetI (.pointer (some ⟨b7, 0 + 1, none⟩)), DetI (.slice A1 p_0.Cols.length c1), DetI (.int .i64 ((p_0.Cols.length : Int))), DetI (.int .i64 (IntKind.wrap .i64 ((p_0.Cols.length : Int) - 1))), DetI (.bool ((i_within ((p_0.Idxs.getD k90 d_Idx).Col) 1 (IntKind.wrap .i64 ((p_0.Cols.length : Int) - 1))))), DetI (.bool (!(i_within ((p_0.Idxs.getD k90 d_Idx).Col) 1 (IntKind.wrap .i64 ((p_0.Cols.length : Int) - 1))))), DetI (.bool (!(i_within ((p_0.Idxs.getD k90 d_Idx).Col) 1 (IntKind.wrap .i64 ((p_0.Cols.length : Int) - 1))))), DetI (.bool (!(i_within ((p_0.Idxs.getD k90 d_Idx).Col) 1 (IntKind.wrap .i64 ((p_0.Cols.length : Int) - 1))))), DetI (.pointer (some ⟨b147, 0 + 2, none⟩)), DetI (.int .i64 ((p_0.Idxs.getD k90 d_Idx).Stage)), DetI (.bool ((i_isStage ((p_0.Idxs.getD k90 d_Idx).Stage)))), DetI (.bool (!(i_isStage ((p_0.Idxs.getD k90 d_Idx).Stage)))), DetI (.bool (!(i_isStage ((p_0.Idxs.getD k90 d_Idx).Stage)))), DetI (.bool (!(i_isStage ((p_0.Idxs.getD k90 d_Idx).Stage)))), DetI (.int .i64 ((k90 : Int))), DetI (.bool (decide (0 < (k90 : Int)))), DetI (.bool (decide (0 < (k90 : Int)))), DetI (.pointer (some ⟨b147, 0 + 0, none⟩)), DetI (.string (bs ((p_0.Idxs.getD k90 d_Idx).Name))), DetI (.pointer (some ⟨b7, 0 + 2, none⟩)), DetI (.slice A2 p_0.Idxs.length c2), DetI (.int .i64 ((k90 : Int))), DetI (.int .i64 (IntKind.wrap .i64 ((k90 : Int) - 1))), DetI (.pointer (some ⟨eb182, eo182 + ((IntKind.wrap .i64 ((k90 : Int) - 1)).toNat) * 3, none⟩)), DetI (.pointer (some ⟨eb182, eo182 + ((IntKind.wrap .i64 ((k90 : Int) - 1)).toNat) * 3 + 0, none⟩)), DetI (.string (bs ((p_0.Idxs.getD ((IntKind.wrap .i64 ((k90 : Int) - 1)).toNat) d_Idx).Name))), DetI (.bool (sLe ((p_0.Idxs.getD k90 d_Idx).Name) ((p_0.Idxs.getD ((IntKind.wrap .i64 ((k90 : Int) - 1)).toNat) d_Idx).Name))), DetI (.bool (sLe ((p_0.Idxs.getD k90 d_Idx).Name) ((p_0.Idxs.getD ((IntKind.wrap .i64 ((k90 : Int) - 1)).toNat) d_Idx).Name))), DetI (.bool (sLe ((p_0.Idxs.getD k90 d_Idx).Name) ((p_0.Idxs.getD ((IntKind.wrap .i64 ((k90 : Int) - 1)).toNat) d_Idx).Name)))]) Try.follows rfl rfl rfl rfl rfl rfl (vgetI_stable ⟨StableI.det _, StableI.det _, StableI.det _, StableI.det _, StableI.det _, StableI.det _, StableI.det _, StableI.det _, StableI.det _, StableI.det _, StableI.det _, StableI.det _, StableI.det _, StableI.det _, StableI.det _, StableI.det _, StableI.det _, StableI.det _, StableI.det _, StableI.det _, StableI.det _, StableI.det _, StableI.det _, StableI.det _, StableI.det _, StableI.det _, StableI.det _, StableI.det _, StableI.det _, StableI.det _, StableI.det _, StableI.det _, StableI.det _, StableI.det _, StableI.det _, StableI.det _, trivial⟩) ⟨?_, ?_, ?_, ?_, ?_, ?_, ?_, ?_, ?_, ?_, ?_, ?_, ?_, ?_, ?_, ?_, ?_, ?_, ?_, ?_, ?_, ?_, ?_, ?_, ?_, ?_, ?_, ?_, ?_, ?_, ?_, ?_, ?_, ?_, ?_, ?_, trivial⟩ ?_
                        · intro L183 w184 hi185
                          have hE186 := hi185.ex
                          have hE186z := Ex.size hE186
                          have hx187 := hi185.old 6 _ rfl rfl
                          exact OpR.op' rfl (Yl.sameI (yl_fieldAddr Try.fd149_0 rfl hx187 ⟨fun _ _ => rfl, rfl⟩))
                        · intro L188 w189 hi190
                          have hE191 := hi190.ex
                          have hE191z := Ex.size hE191
                          obtain ⟨_, _, _, hx192, -, -, -, rfl⟩ := hi190.dep 0 52 rfl rfl
                          have q193 := Box.ex hB154 hE191
                          exact OpR.op' rfl (Yl.sameI (yl_load1 Try.ty9 rfl hx192 ((q193.cell 0).trans rfl) ⟨fun _ _ => rfl, rfl⟩))
                        · intro L194 w195 hi196
                          have hE197 := hi196.ex
                          have hE197z := Ex.size hE197
                          obtain ⟨_, _, _, hx198, -, -, -, rfl⟩ := hi196.dep 1 53 rfl rfl
                          refine OpR.op' rfl (yl_call Try.en120 rfl (opvs_cons hx198 (opvs_cons rfl opvs_nil)) (Cal.mono (c_i_areLetters ((p_0.Idxs.getD k90 d_Idx).Name) 1 (okL.getD o3.2.2 ok_d_Idx _)) ?_))
                          rintro v200 w199 ⟨rfl, hE201⟩
                          exact ⟨rfl, hE201⟩
                        · intro L202 w203 hi204
                          have hE205 := hi204.ex
                          have hE205z := Ex.size hE205
                          obtain ⟨_, _, _, hx206, -, -, -, rfl⟩ := hi204.dep 2 54 rfl rfl
                          exact OpR.op' rfl (Yl.sameI (yl_not rfl hx206 ⟨fun _ _ => rfl, rfl⟩))
                        · intro L207 w208 hi209
                          have hE210 := hi209.ex
                          have hE210z := Ex.size hE210
                          obtain ⟨_, _, _, hx211, -, -, -, rfl⟩ := hi209.dep 3 55 rfl rfl
                          exact OpR.op' rfl (Yl.sameI (yl_move rfl hx211 ⟨fun _ _ => rfl, rfl⟩))
                        · intro L212 w213 hi214
                          have hE215 := hi214.ex
                          have hE215z := Ex.size hE215
                          obtain ⟨_, _, _, hx216, -, -, -, rfl⟩ := hi214.dep 4 56 rfl rfl
                          have hx217 := hi214.old 6 _ rfl rfl
                          exact OpR.want rfl rfl hx216 (not_t hb157) (Yl.sameI (yl_fieldAddr Try.fd149_1 rfl hx217 ⟨fun _ _ => rfl, rfl⟩))
                        · intro L218 w219 hi220
                          have hE221 := hi220.ex
                          have hE221z := Ex.size hE221
                          obtain ⟨_, _, _, hx222, -, -, -, rfl⟩ := hi220.dep 4 56 rfl rfl
                          obtain ⟨_, _, _, hx223, -, -, -, rfl⟩ := hi220.dep 5 57 rfl rfl
                          have q224 := Box.ex hB154 hE221
                          exact OpR.want rfl rfl hx222 (not_t hb157) (Yl.sameI (yl_load1 Try.ty3 rfl hx223 ((q224.cell 1).trans rfl) ⟨fun _ _ => rfl, rfl⟩))
                        · intro L225 w226 hi227
                          have hE228 := hi227.ex
                          have hE228z := Ex.size hE228
                          obtain ⟨_, _, _, hx229, -, -, -, rfl⟩ := hi227.dep 4 56 rfl rfl
                          have hx230 := hi227.old 1 _ rfl rfl
                          exact OpR.want rfl rfl hx229 (not_t hb157) (Yl.sameI (yl_fieldAddr Try.fd84_1 rfl hx230 ⟨fun _ _ => rfl, rfl⟩))
                        · intro L231 w232 hi233
                          have hE234 := hi233.ex
                          have hE234z := Ex.size hE234
                          obtain ⟨_, _, _, hx235, -, -, -, rfl⟩ := hi233.dep 4 56 rfl rfl
                          obtain ⟨_, _, _, hx236, -, -, -, rfl⟩ := hi233.dep 7 59 rfl rfl
                          have q237 := Box.ex q177 hE234
                          exact OpR.want rfl rfl hx235 (not_t hb157) (Yl.sameI (yl_load1 Try.ty73 rfl hx236 ((q237.cell 1).trans rfl) ⟨fun _ _ => rfl, rfl⟩))
                        · intro L238 w239 hi240
                          have hE241 := hi240.ex
                          have hE241z := Ex.size hE241
                          obtain ⟨_, _, _, hx242, -, -, -, rfl⟩ := hi240.dep 4 56 rfl rfl
                          obtain ⟨_, _, _, hx243, -, -, -, rfl⟩ := hi240.dep 8 60 rfl rfl
                          exact OpR.want rfl rfl hx242 (not_t hb157) (Yl.sameI (yl_len Try.un73 rfl hx243 ⟨fun _ _ => rfl, rfl⟩))
                        · intro L244 w245 hi246
                          have hE247 := hi246.ex
                          have hE247z := Ex.size hE247
                          obtain ⟨_, _, _, hx248, -, -, -, rfl⟩ := hi246.dep 4 56 rfl rfl
                          obtain ⟨_, _, _, hx249, -, -, -, rfl⟩ := hi246.dep 9 61 rfl rfl
                          exact OpR.want rfl rfl hx248 (not_t hb157) (Yl.sameI (yl_sub rfl hx249 rfl ⟨fun _ _ => rfl, rfl⟩))
                        · intro L250 w251 hi252
                          have hE253 := hi252.ex
                          have hE253z := Ex.size hE253
                          obtain ⟨_, _, _, hx254, -, -, -, rfl⟩ := hi252.dep 4 56 rfl rfl
                          obtain ⟨_, _, _, hx255, -, -, -, rfl⟩ := hi252.dep 6 58 rfl rfl
                          obtain ⟨_, _, _, hx256, -, -, -, rfl⟩ := hi252.dep 10 62 rfl rfl
                          refine OpR.want rfl rfl hx254 (not_t hb157) (yl_call Try.en56 rfl (opvs_cons hx255 (opvs_cons rfl (opvs_cons hx256 opvs_nil))) (Cal.mono (c_i_within ((p_0.Idxs.getD k90 d_Idx).Col) 1 (IntKind.wrap .i64 ((p_0.Cols.length : Int) - 1))) ?_))
                          rintro v258 w257 ⟨rfl, hE259⟩
                          exact ⟨rfl, hE259⟩
                        · intro L260 w261 hi262
                          have hE263 := hi262.ex
                          have hE263z := Ex.size hE263
                          obtain ⟨_, _, _, hx264, -, -, -, rfl⟩ := hi262.dep 4 56 rfl rfl
                          obtain ⟨_, _, _, hx265, -, -, -, rfl⟩ := hi262.dep 11 63 rfl rfl
                          exact OpR.want rfl rfl hx264 (not_t hb157) (Yl.sameI (yl_not rfl hx265 ⟨fun _ _ => rfl, rfl⟩))
                        · intro L266 w267 hi268
                          have hE269 := hi268.ex
                          have hE269z := Ex.size hE269
                          obtain ⟨_, _, _, hx270, -, -, -, rfl⟩ := hi268.dep 12 64 rfl rfl
                          obtain ⟨_, _, _, hx271, -, -, -, rfl⟩ := hi268.dep 4 56 rfl rfl
                          exact OpR.op' rfl (Yl.sameI (yl_pick_f rfl hx271 (not_t hb157) hx270 ⟨fun _ _ => rfl, rfl⟩))
                        · intro L272 w273 hi274
                          have hE275 := hi274.ex
                          have hE275z := Ex.size hE275
                          obtain ⟨_, _, _, hx276, -, -, -, rfl⟩ := hi274.dep 13 65 rfl rfl
                          exact OpR.op' rfl (Yl.sameI (yl_move rfl hx276 ⟨fun _ _ => rfl, rfl⟩))
                        · intro L277 w278 hi279
                          have hE280 := hi279.ex
                          have hE280z := Ex.size hE280
                          obtain ⟨_, _, _, hx281, -, -, -, rfl⟩ := hi279.dep 14 66 rfl rfl
                          have hx282 := hi279.old 6 _ rfl rfl
                          exact OpR.want rfl rfl hx281 (not_t hb162) (Yl.sameI (yl_fieldAddr Try.fd149_2 rfl hx282 ⟨fun _ _ => rfl, rfl⟩))
                        · intro L283 w284 hi285
                          have hE286 := hi285.ex
                          have hE286z := Ex.size hE286
                          obtain ⟨_, _, _, hx287, -, -, -, rfl⟩ := hi285.dep 14 66 rfl rfl
                          obtain ⟨_, _, _, hx288, -, -, -, rfl⟩ := hi285.dep 15 67 rfl rfl
                          have q289 := Box.ex hB154 hE286
                          exact OpR.want rfl rfl hx287 (not_t hb162) (Yl.sameI (yl_load1 Try.ty3 rfl hx288 ((q289.cell 2).trans rfl) ⟨fun _ _ => rfl, rfl⟩))
                        · intro L290 w291 hi292
                          have hE293 := hi292.ex
                          have hE293z := Ex.size hE293
                          obtain ⟨_, _, _, hx294, -, -, -, rfl⟩ := hi292.dep 14 66 rfl rfl
                          obtain ⟨_, _, _, hx295, -, -, -, rfl⟩ := hi292.dep 16 68 rfl rfl
                          refine OpR.want rfl rfl hx294 (not_t hb162) (yl_call Try.en51 rfl (opvs_cons hx295 opvs_nil) (Cal.mono (c_i_isStage ((p_0.Idxs.getD k90 d_Idx).Stage)) ?_))
                          rintro v297 w296 ⟨rfl, hE298⟩
                          exact ⟨rfl, hE298⟩
                        · intro L299 w300 hi301
                          have hE302 := hi301.ex
                          have hE302z := Ex.size hE302
                          obtain ⟨_, _, _, hx303, -, -, -, rfl⟩ := hi301.dep 14 66 rfl rfl
                          obtain ⟨_, _, _, hx304, -, -, -, rfl⟩ := hi301.dep 17 69 rfl rfl
                          exact OpR.want rfl rfl hx303 (not_t hb162) (Yl.sameI (yl_not rfl hx304 ⟨fun _ _ => rfl, rfl⟩))
                        · intro L305 w306 hi307
                          have hE308 := hi307.ex
                          have hE308z := Ex.size hE308
                          obtain ⟨_, _, _, hx309, -, -, -, rfl⟩ := hi307.dep 18 70 rfl rfl
                          obtain ⟨_, _, _, hx310, -, -, -, rfl⟩ := hi307.dep 14 66 rfl rfl
                          exact OpR.op' rfl (Yl.sameI (yl_pick_f rfl hx310 (not_t hb162) hx309 ⟨fun _ _ => rfl, rfl⟩))
                        · intro L311 w312 hi313
                          have hE314 := hi313.ex
                          have hE314z := Ex.size hE314
                          obtain ⟨_, _, _, hx315, -, -, -, rfl⟩ := hi313.dep 19 71 rfl rfl
                          exact OpR.op' rfl (Yl.sameI (yl_move rfl hx315 ⟨fun _ _ => rfl, rfl⟩))
                        · intro L316 w317 hi318
                          have hE319 := hi318.ex
                          have hE319z := Ex.size hE319
                          obtain ⟨_, _, _, hx320, -, -, -, rfl⟩ := hi318.dep 20 72 rfl rfl
                          have hx321 := hi318.old 5 _ rfl rfl
                          exact OpR.want rfl rfl hx320 (not_t hb168) (Yl.sameI (yl_move rfl hx321 ⟨fun _ _ => rfl, rfl⟩))
                        · intro L322 w323 hi324
                          have hE325 := hi324.ex
                          have hE325z := Ex.size hE325
                          obtain ⟨_, _, _, hx326, -, -, -, rfl⟩ := hi324.dep 20 72 rfl rfl
                          obtain ⟨_, _, _, hx327, -, -, -, rfl⟩ := hi324.dep 21 73 rfl rfl
                          exact OpR.want rfl rfl hx326 (not_t hb168) (Yl.sameI (yl_gtr rfl hx327 rfl ⟨fun _ _ => rfl, rfl⟩))
                        · intro L328 w329 hi330
                          have hE331 := hi330.ex
                          have hE331z := Ex.size hE331
                          obtain ⟨_, _, _, hx332, -, -, -, rfl⟩ := hi330.dep 20 72 rfl rfl
                          obtain ⟨_, _, _, hx333, -, -, -, rfl⟩ := hi330.dep 22 74 rfl rfl
                          exact OpR.want rfl rfl hx332 (not_t hb168) (Yl.sameI (yl_move rfl hx333 ⟨fun _ _ => rfl, rfl⟩))
                        · intro L334 w335 hi336
                          have hE337 := hi336.ex
                          have hE337z := Ex.size hE337
                          obtain ⟨_, _, _, hx338, -, -, -, rfl⟩ := hi336.dep 23 75 rfl rfl
                          have hx339 := hi336.old 6 _ rfl rfl
                          exact OpR.want rfl rfl hx338 hb174 (Yl.sameI (yl_fieldAddr Try.fd149_0 rfl hx339 ⟨fun _ _ => rfl, rfl⟩))
                        · intro L340 w341 hi342
                          have hE343 := hi342.ex
                          have hE343z := Ex.size hE343
                          obtain ⟨_, _, _, hx344, -, -, -, rfl⟩ := hi342.dep 23 75 rfl rfl
                          obtain ⟨_, _, _, hx345, -, -, -, rfl⟩ := hi342.dep 24 76 rfl rfl
                          have q346 := Box.ex hB154 hE343
                          exact OpR.want rfl rfl hx344 hb174 (Yl.sameI (yl_load1 Try.ty9 rfl hx345 ((q346.cell 0).trans rfl) ⟨fun _ _ => rfl, rfl⟩))
                        · intro L347 w348 hi349
                          have hE350 := hi349.ex
                          have hE350z := Ex.size hE350
                          obtain ⟨_, _, _, hx351, -, -, -, rfl⟩ := hi349.dep 23 75 rfl rfl
                          have hx352 := hi349.old 1 _ rfl rfl
                          exact OpR.want rfl rfl hx351 hb174 (Yl.sameI (yl_fieldAddr Try.fd84_2 rfl hx352 ⟨fun _ _ => rfl, rfl⟩))
                        · intro L353 w354 hi355
                          have hE356 := hi355.ex
                          have hE356z := Ex.size hE356
                          obtain ⟨_, _, _, hx357, -, -, -, rfl⟩ := hi355.dep 23 75 rfl rfl
                          obtain ⟨_, _, _, hx358, -, -, -, rfl⟩ := hi355.dep 26 78 rfl rfl
                          have q359 := Box.ex q177 hE356
                          exact OpR.want rfl rfl hx357 hb174 (Yl.sameI (yl_load1 Try.ty82 rfl hx358 ((q359.cell 2).trans rfl) ⟨fun _ _ => rfl, rfl⟩))
                        · intro L360 w361 hi362
                          have hE363 := hi362.ex
                          have hE363z := Ex.size hE363
                          obtain ⟨_, _, _, hx364, -, -, -, rfl⟩ := hi362.dep 23 75 rfl rfl
                          have hx365 := hi362.old 5 _ rfl rfl
                          exact OpR.want rfl rfl hx364 hb174 (Yl.sameI (yl_move rfl hx365 ⟨fun _ _ => rfl, rfl⟩))
                        · intro L366 w367 hi368
                          have hE369 := hi368.ex
                          have hE369z := Ex.size hE369
                          obtain ⟨_, _, _, hx370, -, -, -, rfl⟩ := hi368.dep 23 75 rfl rfl
                          obtain ⟨_, _, _, hx371, -, -, -, rfl⟩ := hi368.dep 28 80 rfl rfl
                          exact OpR.want rfl rfl hx370 hb174 (Yl.sameI (yl_sub rfl hx371 rfl ⟨fun _ _ => rfl, rfl⟩))
                        · intro L372 w373 hi374
                          have hE375 := hi374.ex
                          have hE375z := Ex.size hE375
                          obtain ⟨_, _, _, hx376, -, -, -, rfl⟩ := hi374.dep 23 75 rfl rfl
                          obtain ⟨_, _, _, hx377, -, -, -, rfl⟩ := hi374.dep 27 79 rfl rfl
                          obtain ⟨_, _, _, hx378, -, -, -, rfl⟩ := hi374.dep 29 81 rfl rfl
                          exact OpR.want rfl rfl hx376 hb174 (Yl.sameI (yl_indexAddr Try.un82 Try.ty149 rfl hx377 hx378 eA182 (by first | omega | assumption | (simp only [IntKind.wrap_i64] at *; omega)) (by first | omega | assumption | (simp only [IntKind.wrap_i64] at *; omega)) ⟨fun _ _ => rfl, rfl⟩))
                        · intro L379 w380 hi381
                          have hE382 := hi381.ex
                          have hE382z := Ex.size hE382
                          obtain ⟨_, _, _, hx383, -, -, -, rfl⟩ := hi381.dep 23 75 rfl rfl
                          obtain ⟨_, _, _, hx384, -, -, -, rfl⟩ := hi381.dep 30 82 rfl rfl
                          exact OpR.want rfl rfl hx383 hb174 (Yl.sameI (yl_fieldAddr Try.fd149_0 rfl hx384 ⟨fun _ _ => rfl, rfl⟩))
                        · intro L385 w386 hi387
                          have hE388 := hi387.ex
                          have hE388z := Ex.size hE388
                          obtain ⟨_, _, _, hx389, -, -, -, rfl⟩ := hi387.dep 23 75 rfl rfl
                          obtain ⟨_, _, _, hx390, -, -, -, rfl⟩ := hi387.dep 31 83 rfl rfl
                          have q391 := Cells.ex eC182 hE388
                          exact OpR.want rfl rfl hx389 hb174 (Yl.sameI (yl_load1 Try.ty9 rfl hx390 (q391 0 _ rfl) ⟨fun _ _ => rfl, rfl⟩))
                        · intro L392 w393 hi394
                          have hE395 := hi394.ex
                          have hE395z := Ex.size hE395
                          obtain ⟨_, _, _, hx396, -, -, -, rfl⟩ := hi394.dep 23 75 rfl rfl
                          obtain ⟨_, _, _, hx397, -, -, -, rfl⟩ := hi394.dep 25 77 rfl rfl
                          obtain ⟨_, _, _, hx398, -, -, -, rfl⟩ := hi394.dep 32 84 rfl rfl
                          exact OpR.want rfl rfl hx396 hb174 (Yl.sameI (yl_sleq (a := ((p_0.Idxs.getD k90 d_Idx).Name)) (b := ((p_0.Idxs.getD ((IntKind.wrap .i64 ((k90 : Int) - 1)).toNat) d_Idx).Name)) rfl hx397 hx398 ⟨fun _ _ => rfl, rfl⟩))
                        · intro L399 w400 hi401
                          have hE402 := hi401.ex
                          have hE402z := Ex.size hE402
                          obtain ⟨_, _, _, hx403, -, -, -, rfl⟩ := hi401.dep 20 72 rfl rfl
                          obtain ⟨_, _, _, hx404, -, -, -, rfl⟩ := hi401.dep 33 85 rfl rfl
                          obtain ⟨_, _, _, hx405, -, -, -, rfl⟩ := hi401.dep 23 75 rfl rfl
                          exact OpR.want rfl rfl hx403 (not_t hb168) (Yl.sameI (yl_pick_t rfl hx405 hb174 hx404 ⟨fun _ _ => rfl, rfl⟩))
                        · intro L406 w407 hi408
                          have hE409 := hi408.ex
                          have hE409z := Ex.size hE409
                          obtain ⟨_, _, _, hx410, -, -, -, rfl⟩ := hi408.dep 34 86 rfl rfl
                          obtain ⟨_, _, _, hx411, -, -, -, rfl⟩ := hi408.dep 20 72 rfl rfl
                          exact OpR.op' rfl (Yl.sameI (yl_pick_f rfl hx411 (not_t hb168) hx410 ⟨fun _ _ => rfl, rfl⟩))
                        · intro fl415 fh416 L412 w413 hp414
                          have hE417 := hp414.ex
                          have hE417z := Ex.size hE417
                          have hx418 := hp414.old 1 _ rfl rfl
                          have hx419 := hp414.old 45 _ rfl rfl
                          have hx420 := hp414.old 46 _ rfl rfl
                          have hx421 := hp414.old 47 _ rfl rfl
                          obtain ⟨_, hx422, rfl⟩ := hp414.new 5 57 rfl rfl
                          obtain ⟨_, hx423, rfl⟩ := hp414.new 6 58 rfl rfl
                          obtain ⟨_, hx424, rfl⟩ := hp414.new 7 59 rfl rfl
                          obtain ⟨_, hx425, rfl⟩ := hp414.new 8 60 rfl rfl
                          obtain ⟨_, hx426, rfl⟩ := hp414.new 9 61 rfl rfl
                          obtain ⟨_, hx427, rfl⟩ := hp414.new 10 62 rfl rfl
                          obtain ⟨_, hx428, rfl⟩ := hp414.new 11 63 rfl rfl
                          obtain ⟨_, hx429, rfl⟩ := hp414.new 12 64 rfl rfl
                          obtain ⟨_, hx430, rfl⟩ := hp414.new 15 67 rfl rfl
                          obtain ⟨_, hx431, rfl⟩ := hp414.new 16 68 rfl rfl
                          obtain ⟨_, hx432, rfl⟩ := hp414.new 17 69 rfl rfl
                          obtain ⟨_, hx433, rfl⟩ := hp414.new 18 70 rfl rfl
                          obtain ⟨_, hx434, rfl⟩ := hp414.new 21 73 rfl rfl
                          obtain ⟨_, hx435, rfl⟩ := hp414.new 22 74 rfl rfl
                          obtain ⟨_, hx436, rfl⟩ := hp414.new 23 75 rfl rfl
                          obtain ⟨_, hx437, rfl⟩ := hp414.new 24 76 rfl rfl
                          obtain ⟨_, hx438, rfl⟩ := hp414.new 25 77 rfl rfl
                          obtain ⟨_, hx439, rfl⟩ := hp414.new 26 78 rfl rfl
                          obtain ⟨_, hx440, rfl⟩ := hp414.new 27 79 rfl rfl
                          obtain ⟨_, hx441, rfl⟩ := hp414.new 28 80 rfl rfl
                          obtain ⟨_, hx442, rfl⟩ := hp414.new 29 81 rfl rfl
                          obtain ⟨_, hx443, rfl⟩ := hp414.new 30 82 rfl rfl
                          obtain ⟨_, hx444, rfl⟩ := hp414.new 31 83 rfl rfl
                          obtain ⟨_, hx445, rfl⟩ := hp414.new 32 84 rfl rfl
                          obtain ⟨_, hx446, rfl⟩ := hp414.new 33 85 rfl rfl
                          obtain ⟨_, hx447, rfl⟩ := hp414.new 34 86 rfl rfl
                          obtain ⟨_, hx448, rfl⟩ := hp414.new 35 87 rfl rfl
                          refine SeqR.done ?_
                          refine tn ?_
                          refine CW.sub (Sub.cons (d := 1) hx418 (Sub.cons (d := 45) hx419 (Sub.cons (d := 46) hx420 (Sub.cons (d := 47) hx421 (Sub.cons (d := 57) hx422 (Sub.cons (d := 58) hx423 (Sub.cons (d := 59) hx424 (Sub.cons (d := 60) hx425 (Sub.cons (d := 61) hx426 (Sub.cons (d := 62) hx427 (Sub.cons (d := 63) hx428 (Sub.cons (d := 64) hx429 (Sub.cons (d := 67) hx430 (Sub.cons (d := 68) hx431 (Sub.cons (d := 69) hx432 (Sub.cons (d := 70) hx433 (Sub.cons (d := 73) hx434 (Sub.cons (d := 74) hx435 (Sub.cons (d := 75) hx436 (Sub.cons (d := 76) hx437 (Sub.cons (d := 77) hx438 (Sub.cons (d := 78) hx439 (Sub.cons (d := 79) hx440 (Sub.cons (d := 80) hx441 (Sub.cons (d := 81) hx442 (Sub.cons (d := 82) hx443 (Sub.cons (d := 83) hx444 (Sub.cons (d := 84) hx445 (Sub.cons (d := 85) hx446 (Sub.cons (d := 86) hx447 (Sub.cons (d := 87) hx448 (Sub.nil _)))))))))))))))))))))))))))))))) ?_
                          refine bcase (sLe ((p_0.Idxs.getD k90 d_Idx).Name) ((p_0.Idxs.getD ((IntKind.wrap .i64 ((k90 : Int) - 1)).toNat) d_Idx).Name)) (fun hb449 => ?_) (fun hb449 => ?_)
                          · skip
                            refine CW.cond_t rfl hb449 ?_
                            refine CW.seq ?_
                            refine CW.region ?_
                            refine SeqR.d1 rfl rfl rfl (yl_assign rfl rfl ?_)
                            refine SeqR.done ?_
                            refine tn ?_
                            refine CW.ret ?_
                            refine br ?_
                            refine tr ?_
                            refine tr ?_
                            have hB451 : B_i_GoodTable_1 p_0 k90 () = .ret false := by simp only [B_i_GoodTable_1, hb16, hb21, hb23, hb157, hb162, hb168, hb174, hb449, hL89, cond_true, cond_false, loopE_done, loopE_ret]
                            have hL450 : loopM (B_i_GoodTable_1 p_0) (p_0.Idxs.length - 0) 0 () = .ret false := hI135.symm.trans (loopM.ret hlt145 hB451)
                            refine br ?_
                            refine tr ?_
                            refine rr rfl (.cons rfl .nil) ?_
                            have hM452 : (i_GoodTable p_0) = (false) := by simp only [i_GoodTable, hb16, hb21, hb23, hb157, hb162, hb168, hb174, hb449, hL89, hL450, cond_true, cond_false, loopE_done, loopE_ret]
                            rw [hM452]
                            have q453 := Ex.trans hf143 hE152
                            have q454 := Below.only q453 hO155 (by omega)
                            have q455 := Ex.trans q454 hE417
                            exact ⟨rfl, q455⟩
                          · skip
                            refine CW.cond_f rfl hb449 ?_
                            refine CW.skip ?_
                            refine bn ?_
                            refine tn ?_
                            refine CW.region ?_
                            refine SeqR.d1 rfl rfl rfl (yl_inc rfl rfl rfl (by omega) ?_)
                            refine SeqR.d1 rfl rfl rfl (yl_move rfl rfl ?_)
                            refine SeqR.done ?_
                            refine tn ?_
                            have hB456 : B_i_GoodTable_1 p_0 k90 () = .cont () := by simp only [B_i_GoodTable_1, hb16, hb21, hb23, hb157, hb162, hb168, hb174, hb449, hL89, cond_true, cond_false, loopE_done, loopE_ret]
                            have q457 := Box.ex q177 hE417
                            have q458 := RdS.ex good_Str hf141 hE152
                            have q459 := RdS.only good_Str q458 hO155 (by simp only [Iv]; omega)
                            have q460 := RdS.ex good_Str q459 hE417
                            have q461 := RdS.ex good_Idx q181 hE417
                            have q462 := Ex.trans hf143 hE152
                            have q463 := Below.only q462 hO155 (by omega)
                            have q464 := Ex.trans q463 hE417
                            exact ⟨p_0.Idxs.length - (k90 + 1), by omega, k90 + 1, rfl, hlt145, rfl, rfl, rfl, rfl, q457, q460, q461, q464, (loopM.cont hlt145 hB456).symm.trans hI135⟩
                      · have hb174p := dec_f hb174
                        have q466 := Box.ex hf140 hE152
                        have q467 := Box.only q466 hO155 (by omega)
                        refine CW.drawsI 36 (vgetI [DetI (.pointer (some ⟨b147, 0 + 0, none⟩)), DetI (.string (bs ((p_0.Idxs.getD k90 d_Idx).Name))), DetI (.bool ((i_areLetters ((p_0.Idxs.getD k90 d_Idx).Name) 1))), DetI (.bool (!(i_areLetters ((p_0.Idxs.getD k90 d_Idx).Name) 1))), DetI (.bool (!(i_areLetters ((p_0.Idxs.getD k90 d_Idx).Name) 1))), DetI (.pointer (some ⟨b147, 0 + 1, none⟩)), DetI (.int .i64 ((p_0.Idxs.getD k90 d_Idx).Col)), DetI (.pointer (some ⟨b7, 0 + 1, none⟩)), DetI (.slice A1 p_0.Cols.length c1), DetI (.int .i64 ((p_0.Cols.length : Int))), DetI (.int .i64 (IntKind.wrap .i64 ((p_0.Cols.length : Int) - 1))), DetI (.bool ((i_within ((p_0.Idxs.getD k90 d_Idx).Col) 1 (IntKind.wrap .i64 ((p_0.Cols.length : Int) - 1))))), DetI (.bool (!(i_within ((p_0.Idxs.getD k90 d_Idx).Col) 1 (IntKind.wrap .i64 ((p_0.Cols.length : Int) - 1))))), DetI (.bool (!(i_within ((p_0.Idxs.getD k90 d_Idx).Col) 1 (IntKind.wrap .i64 ((p_0.Cols.length : Int) - 1))))), DetI (.bool (!(i_within ((p_0.Idxs.getD k90 d_Idx).Col) 1 (IntKind.wrap .i64 ((p_0.Cols.length : Int) - 1))))), DetI (.pointer (some ⟨b147, 0 + 2, none⟩)), DetI (.int .i64 ((p_0.Idxs.getD k90 d_Idx).Stage)), DetI (.bool ((i_isStage ((p_0.Idxs.getD k90 d_Idx).Stage)))), DetI (.bool (!(i_isStage ((p_0.Idxs.getD k90 d_Idx).Stage)))), DetI (.bool (!(i_isStage ((p_0.Idxs.getD k90 d_Idx).Stage)))), DetI (.bool (!(i_isStage ((p_0.Idxs.getD k90 d_Idx).Stage)))), DetI (.int .i64 ((k90 : Int))), DetI (.bool (decide (0 < (k90 : Int)))), DetI (.bool (decide (0 < (k90 : Int)))), DetI (undef), DetI (undef), DetI (undef), DetI (undef), DetI (undef), DetI (undef), DetI (undef), DetI (undef), DetI (undef), DetI (undef), DetI (.bool (false)), DetI (.bool (false))]) Try.follows rfl rfl rfl rfl rfl rfl (vgetI_stable ⟨StableI.det _, StableI.det _, StableI.det _, StableI.det _, StableI.det _, StableI.det _, StableI.det _, StableI.det _, StableI.det _, StableI.det _, StableI.det _, StableI.det _, StableI.det _, StableI.det _, StableI.det _, StableI.det _, StableI.det _, StableI.det _, StableI.det _, StableI.det _, StableI.det _, StableI.det _, StableI.det _, StableI.det _, StableI.det _, StableI.det _, StableI.det _, StableI.det _, StableI.det _, StableI.det _, StableI.det _, StableI.det _, StableI.det _, StableI.det _, StableI.det _, StableI.det _, trivial⟩) ⟨?_, ?_, ?_, ?_, ?_, ?_, ?_, ?_, ?_, ?_, ?_, ?_, ?_, ?_, ?_, ?_, ?_, ?_, ?_, ?_, ?_, ?_, ?_, ?_, ?_, ?_, ?_, ?_, ?_, ?_, ?_, ?_, ?_, ?_, ?_, ?_, trivial⟩ ?_
                        · intro L470 w471 hi472
                          have hE473 := hi472.ex
                          have hE473z := Ex.size hE473
                          have hx474 := hi472.old 6 _ rfl rfl
                          exact OpR.op' rfl (Yl.sameI (yl_fieldAddr Try.fd149_0 rfl hx474 ⟨fun _ _ => rfl, rfl⟩))
                        · intro L475 w476 hi477
                          have hE478 := hi477.ex
                          have hE478z := Ex.size hE478
                          obtain ⟨_, _, _, hx479, -, -, -, rfl⟩ := hi477.dep 0 52 rfl rfl
                          have q480 := Box.ex hB154 hE478
                          exact OpR.op' rfl (Yl.sameI (yl_load1 Try.ty9 rfl hx479 ((q480.cell 0).trans rfl) ⟨fun _ _ => rfl, rfl⟩))
                        · intro L481 w482 hi483
                          have hE484 := hi483.ex
                          have hE484z := Ex.size hE484
                          obtain ⟨_, _, _, hx485, -, -, -, rfl⟩ := hi483.dep 1 53 rfl rfl
                          refine OpR.op' rfl (yl_call Try.en120 rfl (opvs_cons hx485 (opvs_cons rfl opvs_nil)) (Cal.mono (c_i_areLetters ((p_0.Idxs.getD k90 d_Idx).Name) 1 (okL.getD o3.2.2 ok_d_Idx _)) ?_))
                          rintro v487 w486 ⟨rfl, hE488⟩
                          exact ⟨rfl, hE488⟩
                        · intro L489 w490 hi491
                          have hE492 := hi491.ex
                          have hE492z := Ex.size hE492
                          obtain ⟨_, _, _, hx493, -, -, -, rfl⟩ := hi491.dep 2 54 rfl rfl
                          exact OpR.op' rfl (Yl.sameI (yl_not rfl hx493 ⟨fun _ _ => rfl, rfl⟩))
                        · intro L494 w495 hi496
                          have hE497 := hi496.ex
                          have hE497z := Ex.size hE497
                          obtain ⟨_, _, _, hx498, -, -, -, rfl⟩ := hi496.dep 3 55 rfl rfl
                          exact OpR.op' rfl (Yl.sameI (yl_move rfl hx498 ⟨fun _ _ => rfl, rfl⟩))
                        · intro L499 w500 hi501
                          have hE502 := hi501.ex
                          have hE502z := Ex.size hE502
                          obtain ⟨_, _, _, hx503, -, -, -, rfl⟩ := hi501.dep 4 56 rfl rfl
                          have hx504 := hi501.old 6 _ rfl rfl
                          exact OpR.want rfl rfl hx503 (not_t hb157) (Yl.sameI (yl_fieldAddr Try.fd149_1 rfl hx504 ⟨fun _ _ => rfl, rfl⟩))
                        · intro L505 w506 hi507
                          have hE508 := hi507.ex
                          have hE508z := Ex.size hE508
                          obtain ⟨_, _, _, hx509, -, -, -, rfl⟩ := hi507.dep 4 56 rfl rfl
                          obtain ⟨_, _, _, hx510, -, -, -, rfl⟩ := hi507.dep 5 57 rfl rfl
                          have q511 := Box.ex hB154 hE508
                          exact OpR.want rfl rfl hx509 (not_t hb157) (Yl.sameI (yl_load1 Try.ty3 rfl hx510 ((q511.cell 1).trans rfl) ⟨fun _ _ => rfl, rfl⟩))
                        · intro L512 w513 hi514
                          have hE515 := hi514.ex
                          have hE515z := Ex.size hE515
                          obtain ⟨_, _, _, hx516, -, -, -, rfl⟩ := hi514.dep 4 56 rfl rfl
                          have hx517 := hi514.old 1 _ rfl rfl
                          exact OpR.want rfl rfl hx516 (not_t hb157) (Yl.sameI (yl_fieldAddr Try.fd84_1 rfl hx517 ⟨fun _ _ => rfl, rfl⟩))
                        · intro L518 w519 hi520
                          have hE521 := hi520.ex
                          have hE521z := Ex.size hE521
                          obtain ⟨_, _, _, hx522, -, -, -, rfl⟩ := hi520.dep 4 56 rfl rfl
                          obtain ⟨_, _, _, hx523, -, -, -, rfl⟩ := hi520.dep 7 59 rfl rfl
                          have q524 := Box.ex q467 hE521
                          exact OpR.want rfl rfl hx522 (not_t hb157) (Yl.sameI (yl_load1 Try.ty73 rfl hx523 ((q524.cell 1).trans rfl) ⟨fun _ _ => rfl, rfl⟩))
                        · intro L525 w526 hi527
                          have hE528 := hi527.ex
                          have hE528z := Ex.size hE528
                          obtain ⟨_, _, _, hx529, -, -, -, rfl⟩ := hi527.dep 4 56 rfl rfl
                          obtain ⟨_, _, _, hx530, -, -, -, rfl⟩ := hi527.dep 8 60 rfl rfl
                          exact OpR.want rfl rfl hx529 (not_t hb157) (Yl.sameI (yl_len Try.un73 rfl hx530 ⟨fun _ _ => rfl, rfl⟩))
                        · intro L531 w532 hi533
                          have hE534 := hi533.ex
                          have hE534z := Ex.size hE534
                          obtain ⟨_, _, _, hx535, -, -, -, rfl⟩ := hi533.dep 4 56 rfl rfl
                          obtain ⟨_, _, _, hx536, -, -, -, rfl⟩ := hi533.dep 9 61 rfl rfl
                          exact OpR.want rfl rfl hx535 (not_t hb157) (Yl.sameI (yl_sub rfl hx536 rfl ⟨fun _ _ => rfl, rfl⟩))
                        · intro L537 w538 hi539
                          have hE540 := hi539.ex
                          have hE540z := Ex.size hE540
                          obtain ⟨_, _, _, hx541, -, -, -, rfl⟩ := hi539.dep 4 56 rfl rfl
                          obtain ⟨_, _, _, hx542, -, -, -, rfl⟩ := hi539.dep 6 58 rfl rfl
                          obtain ⟨_, _, _, hx543, -, -, -, rfl⟩ := hi539.dep 10 62 rfl rfl
                          refine OpR.want rfl rfl hx541 (not_t hb157) (yl_call Try.en56 rfl (opvs_cons hx542 (opvs_cons rfl (opvs_cons hx543 opvs_nil))) (Cal.mono (c_i_within ((p_0.Idxs.getD k90 d_Idx).Col) 1 (IntKind.wrap .i64 ((p_0.Cols.length : Int) - 1))) ?_))
                          rintro v545 w544 ⟨rfl, hE546⟩
                          exact ⟨rfl, hE546⟩
                        · intro L547 w548 hi549
                          have hE550 := hi549.ex
                          have hE550z := Ex.size hE550
                          obtain ⟨_, _, _, hx551, -, -, -, rfl⟩ := hi549.dep 4 56 rfl rfl
                          obtain ⟨_, _, _, hx552, -, -, -, rfl⟩ := hi549.dep 11 63 rfl rfl
                          exact OpR.want rfl rfl hx551 (not_t hb157) (Yl.sameI (yl_not rfl hx552 ⟨fun _ _ => rfl, rfl⟩))
                        · intro L553 w554 hi555
                          have hE556 := hi555.ex
                          have hE556z := Ex.size hE556
                          obtain ⟨_, _, _, hx557, -, -, -, rfl⟩ := hi555.dep 12 64 rfl rfl
                          obtain ⟨_, _, _, hx558, -, -, -, rfl⟩ := hi555.dep 4 56 rfl rfl
                          exact OpR.op' rfl (Yl.sameI (yl_pick_f rfl hx558 (not_t hb157) hx557 ⟨fun _ _ => rfl, rfl⟩))
                        · intro L559 w560 hi561
                          have hE562 := hi561.ex
                          have hE562z := Ex.size hE562
                          obtain ⟨_, _, _, hx563, -, -, -, rfl⟩ := hi561.dep 13 65 rfl rfl
                          exact OpR.op' rfl (Yl.sameI (yl_move rfl hx563 ⟨fun _ _ => rfl, rfl⟩))
                        · intro L564 w565 hi566
                          have hE567 := hi566.ex
                          have hE567z := Ex.size hE567
                          obtain ⟨_, _, _, hx568, -, -, -, rfl⟩ := hi566.dep 14 66 rfl rfl
                          have hx569 := hi566.old 6 _ rfl rfl
                          exact OpR.want rfl rfl hx568 (not_t hb162) (Yl.sameI (yl_fieldAddr Try.fd149_2 rfl hx569 ⟨fun _ _ => rfl, rfl⟩))
                        · intro L570 w571 hi572
                          have hE573 := hi572.ex
                          have hE573z := Ex.size hE573
                          obtain ⟨_, _, _, hx574, -, -, -, rfl⟩ := hi572.dep 14 66 rfl rfl
                          obtain ⟨_, _, _, hx575, -, -, -, rfl⟩ := hi572.dep 15 67 rfl rfl
                          have q576 := Box.ex hB154 hE573
                          exact OpR.want rfl rfl hx574 (not_t hb162) (Yl.sameI (yl_load1 Try.ty3 rfl hx575 ((q576.cell 2).trans rfl) ⟨fun _ _ => rfl, rfl⟩))
                        · intro L577 w578 hi579
                          have hE580 := hi579.ex
                          have hE580z := Ex.size hE580
                          obtain ⟨_, _, _, hx581, -, -, -, rfl⟩ := hi579.dep 14 66 rfl rfl
                          obtain ⟨_, _, _, hx582, -, -, -, rfl⟩ := hi579.dep 16 68 rfl rfl
                          refine OpR.want rfl rfl hx581 (not_t hb162) (yl_call Try.en51 rfl (opvs_cons hx582 opvs_nil) (Cal.mono (c_i_isStage ((p_0.Idxs.getD k90 d_Idx).Stage)) ?_))
                          rintro v584 w583 ⟨rfl, hE585⟩
                          exact ⟨rfl, hE585⟩
                        · intro L586 w587 hi588
                          have hE589 := hi588.ex
                          have hE589z := Ex.size hE589
                          obtain ⟨_, _, _, hx590, -, -, -, rfl⟩ := hi588.dep 14 66 rfl rfl
                          obtain ⟨_, _, _, hx591, -, -, -, rfl⟩ := hi588.dep 17 69 rfl rfl
                          exact OpR.want rfl rfl hx590 (not_t hb162) (Yl.sameI (yl_not rfl hx591 ⟨fun _ _ => rfl, rfl⟩))
                        · intro L592 w593 hi594
                          have hE595 := hi594.ex
                          have hE595z := Ex.size hE595
                          obtain ⟨_, _, _, hx596, -, -, -, rfl⟩ := hi594.dep 18 70 rfl rfl
                          obtain ⟨_, _, _, hx597, -, -, -, rfl⟩ := hi594.dep 14 66 rfl rfl
                          exact OpR.op' rfl (Yl.sameI (yl_pick_f rfl hx597 (not_t hb162) hx596 ⟨fun _ _ => rfl, rfl⟩))
                        · intro L598 w599 hi600
                          have hE601 := hi600.ex
                          have hE601z := Ex.size hE601
                          obtain ⟨_, _, _, hx602, -, -, -, rfl⟩ := hi600.dep 19 71 rfl rfl
                          exact OpR.op' rfl (Yl.sameI (yl_move rfl hx602 ⟨fun _ _ => rfl, rfl⟩))
                        · intro L603 w604 hi605
                          have hE606 := hi605.ex
                          have hE606z := Ex.size hE606
                          obtain ⟨_, _, _, hx607, -, -, -, rfl⟩ := hi605.dep 20 72 rfl rfl
                          have hx608 := hi605.old 5 _ rfl rfl
                          exact OpR.want rfl rfl hx607 (not_t hb168) (Yl.sameI (yl_move rfl hx608 ⟨fun _ _ => rfl, rfl⟩))
                        · intro L609 w610 hi611
                          have hE612 := hi611.ex
                          have hE612z := Ex.size hE612
                          obtain ⟨_, _, _, hx613, -, -, -, rfl⟩ := hi611.dep 20 72 rfl rfl
                          obtain ⟨_, _, _, hx614, -, -, -, rfl⟩ := hi611.dep 21 73 rfl rfl
                          exact OpR.want rfl rfl hx613 (not_t hb168) (Yl.sameI (yl_gtr rfl hx614 rfl ⟨fun _ _ => rfl, rfl⟩))
                        · intro L615 w616 hi617
                          have hE618 := hi617.ex
                          have hE618z := Ex.size hE618
                          obtain ⟨_, _, _, hx619, -, -, -, rfl⟩ := hi617.dep 20 72 rfl rfl
                          obtain ⟨_, _, _, hx620, -, -, -, rfl⟩ := hi617.dep 22 74 rfl rfl
                          exact OpR.want rfl rfl hx619 (not_t hb168) (Yl.sameI (yl_move rfl hx620 ⟨fun _ _ => rfl, rfl⟩))
                        · intro L621 w622 hi623
                          have hE624 := hi623.ex
                          have hE624z := Ex.size hE624
                          obtain ⟨_, _, _, hx625, -, -, -, rfl⟩ := hi623.dep 23 75 rfl rfl
                          exact OpR.skip rfl rfl hx625 hb174 ⟨rfl, Ex.refl _⟩
                        · intro L626 w627 hi628
                          have hE629 := hi628.ex
                          have hE629z := Ex.size hE629
                          obtain ⟨_, _, _, hx630, -, -, -, rfl⟩ := hi628.dep 23 75 rfl rfl
                          exact OpR.skip rfl rfl hx630 hb174 ⟨rfl, Ex.refl _⟩
                        · intro L631 w632 hi633
                          have hE634 := hi633.ex
                          have hE634z := Ex.size hE634
                          obtain ⟨_, _, _, hx635, -, -, -, rfl⟩ := hi633.dep 23 75 rfl rfl
                          exact OpR.skip rfl rfl hx635 hb174 ⟨rfl, Ex.refl _⟩
                        · intro L636 w637 hi638
                          have hE639 := hi638.ex
                          have hE639z := Ex.size hE639
                          obtain ⟨_, _, _, hx640, -, -, -, rfl⟩ := hi638.dep 23 75 rfl rfl
                          exact OpR.skip rfl rfl hx640 hb174 ⟨rfl, Ex.refl _⟩
                        · intro L641 w642 hi643
                          have hE644 := hi643.ex
                          have hE644z := Ex.size hE644
                          obtain ⟨_, _, _, hx645, -, -, -, rfl⟩ := hi643.dep 23 75 rfl rfl
                          exact OpR.skip rfl rfl hx645 hb174 ⟨rfl, Ex.refl _⟩
                        · intro L646 w647 hi648
                          have hE649 := hi648.ex
                          have hE649z := Ex.size hE649
                          obtain ⟨_, _, _, hx650, -, -, -, rfl⟩ := hi648.dep 23 75 rfl rfl
                          exact OpR.skip rfl rfl hx650 hb174 ⟨rfl, Ex.refl _⟩
                        · intro L651 w652 hi653
                          have hE654 := hi653.ex
                          have hE654z := Ex.size hE654
                          obtain ⟨_, _, _, hx655, -, -, -, rfl⟩ := hi653.dep 23 75 rfl rfl
                          exact OpR.skip rfl rfl hx655 hb174 ⟨rfl, Ex.refl _⟩
                        · intro L656 w657 hi658
                          have hE659 := hi658.ex
                          have hE659z := Ex.size hE659
                          obtain ⟨_, _, _, hx660, -, -, -, rfl⟩ := hi658.dep 23 75 rfl rfl
                          exact OpR.skip rfl rfl hx660 hb174 ⟨rfl, Ex.refl _⟩
                        · intro L661 w662 hi663
                          have hE664 := hi663.ex
                          have hE664z := Ex.size hE664
                          obtain ⟨_, _, _, hx665, -, -, -, rfl⟩ := hi663.dep 23 75 rfl rfl
                          exact OpR.skip rfl rfl hx665 hb174 ⟨rfl, Ex.refl _⟩
                        · intro L666 w667 hi668
                          have hE669 := hi668.ex
                          have hE669z := Ex.size hE669
                          obtain ⟨_, _, _, hx670, -, -, -, rfl⟩ := hi668.dep 23 75 rfl rfl
                          exact OpR.skip rfl rfl hx670 hb174 ⟨rfl, Ex.refl _⟩
                        · intro L671 w672 hi673
                          have hE674 := hi673.ex
                          have hE674z := Ex.size hE674
                          obtain ⟨_, _, _, hx675, -, -, -, rfl⟩ := hi673.dep 20 72 rfl rfl
                          obtain ⟨_, _, _, hx676, -, -, -, rfl⟩ := hi673.dep 33 85 rfl rfl
                          obtain ⟨_, _, _, hx677, -, -, -, rfl⟩ := hi673.dep 23 75 rfl rfl
                          exact OpR.want rfl rfl hx675 (not_t hb168) (Yl.sameI (yl_pick_f rfl hx677 hb174 rfl ⟨fun _ _ => rfl, rfl⟩))
                        · intro L678 w679 hi680
                          have hE681 := hi680.ex
                          have hE681z := Ex.size hE681
                          obtain ⟨_, _, _, hx682, -, -, -, rfl⟩ := hi680.dep 34 86 rfl rfl
                          obtain ⟨_, _, _, hx683, -, -, -, rfl⟩ := hi680.dep 20 72 rfl rfl
                          exact OpR.op' rfl (Yl.sameI (yl_pick_f rfl hx683 (not_t hb168) hx682 ⟨fun _ _ => rfl, rfl⟩))
                        · intro fl687 fh688 L684 w685 hp686
                          have hE689 := hp686.ex
                          have hE689z := Ex.size hE689
                          have hx690 := hp686.old 1 _ rfl rfl
                          have hx691 := hp686.old 45 _ rfl rfl
                          have hx692 := hp686.old 46 _ rfl rfl
                          have hx693 := hp686.old 47 _ rfl rfl
                          obtain ⟨_, hx694, rfl⟩ := hp686.new 5 57 rfl rfl
                          obtain ⟨_, hx695, rfl⟩ := hp686.new 6 58 rfl rfl
                          obtain ⟨_, hx696, rfl⟩ := hp686.new 7 59 rfl rfl
                          obtain ⟨_, hx697, rfl⟩ := hp686.new 8 60 rfl rfl
                          obtain ⟨_, hx698, rfl⟩ := hp686.new 9 61 rfl rfl
                          obtain ⟨_, hx699, rfl⟩ := hp686.new 10 62 rfl rfl
                          obtain ⟨_, hx700, rfl⟩ := hp686.new 11 63 rfl rfl
                          obtain ⟨_, hx701, rfl⟩ := hp686.new 12 64 rfl rfl
                          obtain ⟨_, hx702, rfl⟩ := hp686.new 15 67 rfl rfl
                          obtain ⟨_, hx703, rfl⟩ := hp686.new 16 68 rfl rfl
                          obtain ⟨_, hx704, rfl⟩ := hp686.new 17 69 rfl rfl
                          obtain ⟨_, hx705, rfl⟩ := hp686.new 18 70 rfl rfl
                          obtain ⟨_, hx706, rfl⟩ := hp686.new 21 73 rfl rfl
                          obtain ⟨_, hx707, rfl⟩ := hp686.new 22 74 rfl rfl
                          obtain ⟨_, hx708, rfl⟩ := hp686.new 23 75 rfl rfl
                          obtain ⟨_, hx709, rfl⟩ := hp686.new 24 76 rfl rfl
                          obtain ⟨_, hx710, rfl⟩ := hp686.new 25 77 rfl rfl
                          obtain ⟨_, hx711, rfl⟩ := hp686.new 26 78 rfl rfl
                          obtain ⟨_, hx712, rfl⟩ := hp686.new 27 79 rfl rfl
                          obtain ⟨_, hx713, rfl⟩ := hp686.new 28 80 rfl rfl
                          obtain ⟨_, hx714, rfl⟩ := hp686.new 29 81 rfl rfl
                          obtain ⟨_, hx715, rfl⟩ := hp686.new 30 82 rfl rfl
                          obtain ⟨_, hx716, rfl⟩ := hp686.new 31 83 rfl rfl
                          obtain ⟨_, hx717, rfl⟩ := hp686.new 32 84 rfl rfl
                          obtain ⟨_, hx718, rfl⟩ := hp686.new 33 85 rfl rfl
                          obtain ⟨_, hx719, rfl⟩ := hp686.new 34 86 rfl rfl
                          obtain ⟨_, hx720, rfl⟩ := hp686.new 35 87 rfl rfl
                          refine SeqR.done ?_
                          refine tn ?_
                          refine CW.sub (Sub.cons (d := 1) hx690 (Sub.cons (d := 45) hx691 (Sub.cons (d := 46) hx692 (Sub.cons (d := 47) hx693 (Sub.cons (d := 57) hx694 (Sub.cons (d := 58) hx695 (Sub.cons (d := 59) hx696 (Sub.cons (d := 60) hx697 (Sub.cons (d := 61) hx698 (Sub.cons (d := 62) hx699 (Sub.cons (d := 63) hx700 (Sub.cons (d := 64) hx701 (Sub.cons (d := 67) hx702 (Sub.cons (d := 68) hx703 (Sub.cons (d := 69) hx704 (Sub.cons (d := 70) hx705 (Sub.cons (d := 73) hx706 (Sub.cons (d := 74) hx707 (Sub.cons (d := 75) hx708 (Sub.cons (d := 76) hx709 (Sub.cons (d := 77) hx710 (Sub.cons (d := 78) hx711 (Sub.cons (d := 79) hx712 (Sub.cons (d := 80) hx713 (Sub.cons (d := 81) hx714 (Sub.cons (d := 82) hx715 (Sub.cons (d := 83) hx716 (Sub.cons (d := 84) hx717 (Sub.cons (d := 85) hx718 (Sub.cons (d := 86) hx719 (Sub.cons (d := 87) hx720 (Sub.nil _)))))))))))))))))))))))))))))))) ?_
                          refine CW.cond_f rfl rfl ?_
                          refine CW.skip ?_
                          refine bn ?_
                          refine tn ?_
                          refine CW.region ?_
                          refine SeqR.d1 rfl rfl rfl (yl_inc rfl rfl rfl (by omega) ?_)
                          refine SeqR.d1 rfl rfl rfl (yl_move rfl rfl ?_)
                          refine SeqR.done ?_
                          refine tn ?_
                          have hB721 : B_i_GoodTable_1 p_0 k90 () = .cont () := by simp only [B_i_GoodTable_1, hb16, hb21, hb23, hb157, hb162, hb168, hb174, hL89, cond_true, cond_false, loopE_done, loopE_ret]
                          have q722 := Box.ex q467 hE689
                          have q723 := RdS.ex good_Str hf141 hE152
                          have q724 := RdS.only good_Str q723 hO155 (by simp only [Iv]; omega)
                          have q725 := RdS.ex good_Str q724 hE689
                          have q726 := RdS.ex good_Idx hf142 hE152
                          have q727 := RdS.only good_Idx q726 hO155 (by simp only [Iv]; omega)
                          have q728 := RdS.ex good_Idx q727 hE689
                          have q729 := Ex.trans hf143 hE152
                          have q730 := Below.only q729 hO155 (by omega)
                          have q731 := Ex.trans q730 hE689
                          exact ⟨p_0.Idxs.length - (k90 + 1), by omega, k90 + 1, rfl, hlt145, rfl, rfl, rfl, rfl, q722, q725, q728, q731, (loopM.cont hlt145 hB721).symm.trans hI135⟩
                    · skip
                      have q733 := Box.ex hf140 hE152
                      have q734 := Box.only q733 hO155 (by omega)
                      refine CW.drawsI 36 (vgetI [DetI (.pointer (some ⟨b147, 0 + 0, none⟩)), DetI (.string (bs ((p_0.Idxs.getD k90 d_Idx).Name))), DetI (.bool ((i_areLetters ((p_0.Idxs.getD k90 d_Idx).Name) 1))), DetI (.bool (!(i_areLetters ((p_0.Idxs.getD k90 d_Idx).Name) 1))), DetI (.bool (!(i_areLetters ((p_0.Idxs.getD k90 d_Idx).Name) 1))), DetI (.pointer (some ⟨b147, 0 + 1, none⟩)), DetI (.int .i64 ((p_0.Idxs.getD k90 d_Idx).Col)), DetI (.pointer (some ⟨b7, 0 + 1, none⟩)), DetI (.slice A1 p_0.Cols.length c1), DetI (.int .i64 ((p_0.Cols.length : Int))), DetI (.int .i64 (IntKind.wrap .i64 ((p_0.Cols.length : Int) - 1))), DetI (.bool ((i_within ((p_0.Idxs.getD k90 d_Idx).Col) 1 (IntKind.wrap .i64 ((p_0.Cols.length : Int) - 1))))), DetI (.bool (!(i_within ((p_0.Idxs.getD k90 d_Idx).Col) 1 (IntKind.wrap .i64 ((p_0.Cols.length : Int) - 1))))), DetI (.bool (!(i_within ((p_0.Idxs.getD k90 d_Idx).Col) 1 (IntKind.wrap .i64 ((p_0.Cols.length : Int) - 1))))), DetI (.bool (!(i_within ((p_0.Idxs.getD k90 d_Idx).Col) 1 (IntKind.wrap .i64 ((p_0.Cols.length : Int) - 1))))), DetI (.pointer (some ⟨b147, 0 + 2, none⟩)), DetI (.int .i64 ((p_0.Idxs.getD k90 d_Idx).Stage)), DetI (.bool ((i_isStage ((p_0.Idxs.getD k90 d_Idx).Stage)))), DetI (.bool (!(i_isStage ((p_0.Idxs.getD k90 d_Idx).Stage)))), DetI (.bool (!(i_isStage ((p_0.Idxs.getD k90 d_Idx).Stage)))), DetI (.bool (!(i_isStage ((p_0.Idxs.getD k90 d_Idx).Stage)))), DetI (undef), DetI (undef), DetI (undef), DetI (undef), DetI (undef), DetI (undef), DetI (undef), DetI (undef), DetI (undef), DetI (undef), DetI (undef), DetI (undef), DetI (undef), DetI (undef), DetI (.bool (true))]) Try.follows rfl rfl rfl rfl rfl rfl (vgetI_stable ⟨StableI.det _, StableI.det _, StableI.det _, StableI.det _, StableI.det _, StableI.det _, StableI.det _, StableI.det _, StableI.det _, StableI.det _, StableI.det _, StableI.det _, StableI.det _, StableI.det _, StableI.det _, StableI.det _, StableI.det _, StableI.det _, StableI.det _, StableI.det _, StableI.det _, StableI.det _, StableI.det _, StableI.det _, StableI.det _, StableI.det _, StableI.det _, StableI.det _, StableI.det _, StableI.det _, StableI.det _, StableI.det _, StableI.det _, StableI.det _, StableI.det _, StableI.det _, trivial⟩) ⟨?_, ?_, ?_, ?_, ?_, ?_, ?_, ?_, ?_, ?_, ?_, ?_, ?_, ?_, ?_, ?_, ?_, ?_, ?_, ?_, ?_, ?_, ?_, ?_, ?_, ?_, ?_, ?_, ?_, ?_, ?_, ?_, ?_, ?_, ?_, ?_, trivial⟩ ?_
                      · intro L737 w738 hi739
                        have hE740 := hi739.ex
                        have hE740z := Ex.size hE740
                        have hx741 := hi739.old 6 _ rfl rfl
                        exact OpR.op' rfl (Yl.sameI (yl_fieldAddr Try.fd149_0 rfl hx741 ⟨fun _ _ => rfl, rfl⟩))
                      · intro L742 w743 hi744
                        have hE745 := hi744.ex
                        have hE745z := Ex.size hE745
                        obtain ⟨_, _, _, hx746, -, -, -, rfl⟩ := hi744.dep 0 52 rfl rfl
                        have q747 := Box.ex hB154 hE745
                        exact OpR.op' rfl (Yl.sameI (yl_load1 Try.ty9 rfl hx746 ((q747.cell 0).trans rfl) ⟨fun _ _ => rfl, rfl⟩))
                      · intro L748 w749 hi750
                        have hE751 := hi750.ex
                        have hE751z := Ex.size hE751
                        obtain ⟨_, _, _, hx752, -, -, -, rfl⟩ := hi750.dep 1 53 rfl rfl
                        refine OpR.op' rfl (yl_call Try.en120 rfl (opvs_cons hx752 (opvs_cons rfl opvs_nil)) (Cal.mono (c_i_areLetters ((p_0.Idxs.getD k90 d_Idx).Name) 1 (okL.getD o3.2.2 ok_d_Idx _)) ?_))
                        rintro v754 w753 ⟨rfl, hE755⟩
                        exact ⟨rfl, hE755⟩
                      · intro L756 w757 hi758
                        have hE759 := hi758.ex
                        have hE759z := Ex.size hE759
                        obtain ⟨_, _, _, hx760, -, -, -, rfl⟩ := hi758.dep 2 54 rfl rfl
                        exact OpR.op' rfl (Yl.sameI (yl_not rfl hx760 ⟨fun _ _ => rfl, rfl⟩))
                      · intro L761 w762 hi763
                        have hE764 := hi763.ex
                        have hE764z := Ex.size hE764
                        obtain ⟨_, _, _, hx765, -, -, -, rfl⟩ := hi763.dep 3 55 rfl rfl
                        exact OpR.op' rfl (Yl.sameI (yl_move rfl hx765 ⟨fun _ _ => rfl, rfl⟩))
                      · intro L766 w767 hi768
                        have hE769 := hi768.ex
                        have hE769z := Ex.size hE769
                        obtain ⟨_, _, _, hx770, -, -, -, rfl⟩ := hi768.dep 4 56 rfl rfl
                        have hx771 := hi768.old 6 _ rfl rfl
                        exact OpR.want rfl rfl hx770 (not_t hb157) (Yl.sameI (yl_fieldAddr Try.fd149_1 rfl hx771 ⟨fun _ _ => rfl, rfl⟩))
                      · intro L772 w773 hi774
                        have hE775 := hi774.ex
                        have hE775z := Ex.size hE775
                        obtain ⟨_, _, _, hx776, -, -, -, rfl⟩ := hi774.dep 4 56 rfl rfl
                        obtain ⟨_, _, _, hx777, -, -, -, rfl⟩ := hi774.dep 5 57 rfl rfl
                        have q778 := Box.ex hB154 hE775
                        exact OpR.want rfl rfl hx776 (not_t hb157) (Yl.sameI (yl_load1 Try.ty3 rfl hx777 ((q778.cell 1).trans rfl) ⟨fun _ _ => rfl, rfl⟩))
                      · intro L779 w780 hi781
                        have hE782 := hi781.ex
                        have hE782z := Ex.size hE782
                        obtain ⟨_, _, _, hx783, -, -, -, rfl⟩ := hi781.dep 4 56 rfl rfl
                        have hx784 := hi781.old 1 _ rfl rfl
                        exact OpR.want rfl rfl hx783 (not_t hb157) (Yl.sameI (yl_fieldAddr Try.fd84_1 rfl hx784 ⟨fun _ _ => rfl, rfl⟩))
                      · intro L785 w786 hi787
                        have hE788 := hi787.ex
                        have hE788z := Ex.size hE788
                        obtain ⟨_, _, _, hx789, -, -, -, rfl⟩ := hi787.dep 4 56 rfl rfl
                        obtain ⟨_, _, _, hx790, -, -, -, rfl⟩ := hi787.dep 7 59 rfl rfl
                        have q791 := Box.ex q734 hE788
                        exact OpR.want rfl rfl hx789 (not_t hb157) (Yl.sameI (yl_load1 Try.ty73 rfl hx790 ((q791.cell 1).trans rfl) ⟨fun _ _ => rfl, rfl⟩))
                      · intro L792 w793 hi794
                        have hE795 := hi794.ex
                        have hE795z := Ex.size hE795
                        obtain ⟨_, _, _, hx796, -, -, -, rfl⟩ := hi794.dep 4 56 rfl rfl
                        obtain ⟨_, _, _, hx797, -, -, -, rfl⟩ := hi794.dep 8 60 rfl rfl
                        exact OpR.want rfl rfl hx796 (not_t hb157) (Yl.sameI (yl_len Try.un73 rfl hx797 ⟨fun _ _ => rfl, rfl⟩))
                      · intro L798 w799 hi800
                        have hE801 := hi800.ex
                        have hE801z := Ex.size hE801
                        obtain ⟨_, _, _, hx802, -, -, -, rfl⟩ := hi800.dep 4 56 rfl rfl
                        obtain ⟨_, _, _, hx803, -, -, -, rfl⟩ := hi800.dep 9 61 rfl rfl
                        exact OpR.want rfl rfl hx802 (not_t hb157) (Yl.sameI (yl_sub rfl hx803 rfl ⟨fun _ _ => rfl, rfl⟩))
                      · intro L804 w805 hi806
                        have hE807 := hi806.ex
                        have hE807z := Ex.size hE807
                        obtain ⟨_, _, _, hx808, -, -, -, rfl⟩ := hi806.dep 4 56 rfl rfl
                        obtain ⟨_, _, _, hx809, -, -, -, rfl⟩ := hi806.dep 6 58 rfl rfl
                        obtain ⟨_, _, _, hx810, -, -, -, rfl⟩ := hi806.dep 10 62 rfl rfl
                        refine OpR.want rfl rfl hx808 (not_t hb157) (yl_call Try.en56 rfl (opvs_cons hx809 (opvs_cons rfl (opvs_cons hx810 opvs_nil))) (Cal.mono (c_i_within ((p_0.Idxs.getD k90 d_Idx).Col) 1 (IntKind.wrap .i64 ((p_0.Cols.length : Int) - 1))) ?_))
                        rintro v812 w811 ⟨rfl, hE813⟩
                        exact ⟨rfl, hE813⟩
                      · intro L814 w815 hi816
                        have hE817 := hi816.ex
                        have hE817z := Ex.size hE817
                        obtain ⟨_, _, _, hx818, -, -, -, rfl⟩ := hi816.dep 4 56 rfl rfl
                        obtain ⟨_, _, _, hx819, -, -, -, rfl⟩ := hi816.dep 11 63 rfl rfl
                        exact OpR.want rfl rfl hx818 (not_t hb157) (Yl.sameI (yl_not rfl hx819 ⟨fun _ _ => rfl, rfl⟩))
                      · intro L820 w821 hi822
                        have hE823 := hi822.ex
                        have hE823z := Ex.size hE823
                        obtain ⟨_, _, _, hx824, -, -, -, rfl⟩ := hi822.dep 12 64 rfl rfl
                        obtain ⟨_, _, _, hx825, -, -, -, rfl⟩ := hi822.dep 4 56 rfl rfl
                        exact OpR.op' rfl (Yl.sameI (yl_pick_f rfl hx825 (not_t hb157) hx824 ⟨fun _ _ => rfl, rfl⟩))
                      · intro L826 w827 hi828
                        have hE829 := hi828.ex
                        have hE829z := Ex.size hE829
                        obtain ⟨_, _, _, hx830, -, -, -, rfl⟩ := hi828.dep 13 65 rfl rfl
                        exact OpR.op' rfl (Yl.sameI (yl_move rfl hx830 ⟨fun _ _ => rfl, rfl⟩))
                      · intro L831 w832 hi833
                        have hE834 := hi833.ex
                        have hE834z := Ex.size hE834
                        obtain ⟨_, _, _, hx835, -, -, -, rfl⟩ := hi833.dep 14 66 rfl rfl
                        have hx836 := hi833.old 6 _ rfl rfl
                        exact OpR.want rfl rfl hx835 (not_t hb162) (Yl.sameI (yl_fieldAddr Try.fd149_2 rfl hx836 ⟨fun _ _ => rfl, rfl⟩))
                      · intro L837 w838 hi839
                        have hE840 := hi839.ex
                        have hE840z := Ex.size hE840
                        obtain ⟨_, _, _, hx841, -, -, -, rfl⟩ := hi839.dep 14 66 rfl rfl
                        obtain ⟨_, _, _, hx842, -, -, -, rfl⟩ := hi839.dep 15 67 rfl rfl
                        have q843 := Box.ex hB154 hE840
                        exact OpR.want rfl rfl hx841 (not_t hb162) (Yl.sameI (yl_load1 Try.ty3 rfl hx842 ((q843.cell 2).trans rfl) ⟨fun _ _ => rfl, rfl⟩))
                      · intro L844 w845 hi846
                        have hE847 := hi846.ex
                        have hE847z := Ex.size hE847
                        obtain ⟨_, _, _, hx848, -, -, -, rfl⟩ := hi846.dep 14 66 rfl rfl
                        obtain ⟨_, _, _, hx849, -, -, -, rfl⟩ := hi846.dep 16 68 rfl rfl
                        refine OpR.want rfl rfl hx848 (not_t hb162) (yl_call Try.en51 rfl (opvs_cons hx849 opvs_nil) (Cal.mono (c_i_isStage ((p_0.Idxs.getD k90 d_Idx).Stage)) ?_))
                        rintro v851 w850 ⟨rfl, hE852⟩
                        exact ⟨rfl, hE852⟩
                      · intro L853 w854 hi855
                        have hE856 := hi855.ex
                        have hE856z := Ex.size hE856
                        obtain ⟨_, _, _, hx857, -, -, -, rfl⟩ := hi855.dep 14 66 rfl rfl
                        obtain ⟨_, _, _, hx858, -, -, -, rfl⟩ := hi855.dep 17 69 rfl rfl
                        exact OpR.want rfl rfl hx857 (not_t hb162) (Yl.sameI (yl_not rfl hx858 ⟨fun _ _ => rfl, rfl⟩))
                      · intro L859 w860 hi861
                        have hE862 := hi861.ex
                        have hE862z := Ex.size hE862
                        obtain ⟨_, _, _, hx863, -, -, -, rfl⟩ := hi861.dep 18 70 rfl rfl
                        obtain ⟨_, _, _, hx864, -, -, -, rfl⟩ := hi861.dep 14 66 rfl rfl
                        exact OpR.op' rfl (Yl.sameI (yl_pick_f rfl hx864 (not_t hb162) hx863 ⟨fun _ _ => rfl, rfl⟩))
                      · intro L865 w866 hi867
                        have hE868 := hi867.ex
                        have hE868z := Ex.size hE868
                        obtain ⟨_, _, _, hx869, -, -, -, rfl⟩ := hi867.dep 19 71 rfl rfl
                        exact OpR.op' rfl (Yl.sameI (yl_move rfl hx869 ⟨fun _ _ => rfl, rfl⟩))
                      · intro L870 w871 hi872
                        have hE873 := hi872.ex
                        have hE873z := Ex.size hE873
                        obtain ⟨_, _, _, hx874, -, -, -, rfl⟩ := hi872.dep 20 72 rfl rfl
                        exact OpR.skip rfl rfl hx874 (not_f hb168) ⟨rfl, Ex.refl _⟩
                      · intro L875 w876 hi877
                        have hE878 := hi877.ex
                        have hE878z := Ex.size hE878
                        obtain ⟨_, _, _, hx879, -, -, -, rfl⟩ := hi877.dep 20 72 rfl rfl
                        exact OpR.skip rfl rfl hx879 (not_f hb168) ⟨rfl, Ex.refl _⟩
                      · intro L880 w881 hi882
                        have hE883 := hi882.ex
                        have hE883z := Ex.size hE883
                        obtain ⟨_, _, _, hx884, -, -, -, rfl⟩ := hi882.dep 20 72 rfl rfl
                        exact OpR.skip rfl rfl hx884 (not_f hb168) ⟨rfl, Ex.refl _⟩
                      · intro L885 w886 hi887
                        have hE888 := hi887.ex
                        have hE888z := Ex.size hE888
                        obtain ⟨_, _, _, hx889, -, -, -, rfl⟩ := hi887.dep 23 75 rfl rfl
                        exact OpR.undef rfl rfl hx889 ⟨rfl, Ex.refl _⟩
                      · intro L890 w891 hi892
                        have hE893 := hi892.ex
                        have hE893z := Ex.size hE893
                        obtain ⟨_, _, _, hx894, -, -, -, rfl⟩ := hi892.dep 23 75 rfl rfl
                        exact OpR.undef rfl rfl hx894 ⟨rfl, Ex.refl _⟩
                      · intro L895 w896 hi897
                        have hE898 := hi897.ex
                        have hE898z := Ex.size hE898
                        obtain ⟨_, _, _, hx899, -, -, -, rfl⟩ := hi897.dep 23 75 rfl rfl
                        exact OpR.undef rfl rfl hx899 ⟨rfl, Ex.refl _⟩
                      · intro L900 w901 hi902
                        have hE903 := hi902.ex
                        have hE903z := Ex.size hE903
                        obtain ⟨_, _, _, hx904, -, -, -, rfl⟩ := hi902.dep 23 75 rfl rfl
                        exact OpR.undef rfl rfl hx904 ⟨rfl, Ex.refl _⟩
                      · intro L905 w906 hi907
                        have hE908 := hi907.ex
                        have hE908z := Ex.size hE908
                        obtain ⟨_, _, _, hx909, -, -, -, rfl⟩ := hi907.dep 23 75 rfl rfl
                        exact OpR.undef rfl rfl hx909 ⟨rfl, Ex.refl _⟩
                      · intro L910 w911 hi912
                        have hE913 := hi912.ex
                        have hE913z := Ex.size hE913
                        obtain ⟨_, _, _, hx914, -, -, -, rfl⟩ := hi912.dep 23 75 rfl rfl
                        exact OpR.undef rfl rfl hx914 ⟨rfl, Ex.refl _⟩
                      · intro L915 w916 hi917
                        have hE918 := hi917.ex
                        have hE918z := Ex.size hE918
                        obtain ⟨_, _, _, hx919, -, -, -, rfl⟩ := hi917.dep 23 75 rfl rfl
                        exact OpR.undef rfl rfl hx919 ⟨rfl, Ex.refl _⟩
                      · intro L920 w921 hi922
                        have hE923 := hi922.ex
                        have hE923z := Ex.size hE923
                        obtain ⟨_, _, _, hx924, -, -, -, rfl⟩ := hi922.dep 23 75 rfl rfl
                        exact OpR.undef rfl rfl hx924 ⟨rfl, Ex.refl _⟩
                      · intro L925 w926 hi927
                        have hE928 := hi927.ex
                        have hE928z := Ex.size hE928
                        obtain ⟨_, _, _, hx929, -, -, -, rfl⟩ := hi927.dep 23 75 rfl rfl
                        exact OpR.undef rfl rfl hx929 ⟨rfl, Ex.refl _⟩
                      · intro L930 w931 hi932
                        have hE933 := hi932.ex
                        have hE933z := Ex.size hE933
                        obtain ⟨_, _, _, hx934, -, -, -, rfl⟩ := hi932.dep 23 75 rfl rfl
                        exact OpR.undef rfl rfl hx934 ⟨rfl, Ex.refl _⟩
                      · intro L935 w936 hi937
                        have hE938 := hi937.ex
                        have hE938z := Ex.size hE938
                        obtain ⟨_, _, _, hx939, -, -, -, rfl⟩ := hi937.dep 20 72 rfl rfl
                        exact OpR.skip rfl rfl hx939 (not_f hb168) ⟨rfl, Ex.refl _⟩
                      · intro L940 w941 hi942
                        have hE943 := hi942.ex
                        have hE943z := Ex.size hE943
                        obtain ⟨_, _, _, hx944, -, -, -, rfl⟩ := hi942.dep 34 86 rfl rfl
                        obtain ⟨_, _, _, hx945, -, -, -, rfl⟩ := hi942.dep 20 72 rfl rfl
                        exact OpR.op' rfl (Yl.sameI (yl_pick_t rfl hx945 (not_f hb168) rfl ⟨fun _ _ => rfl, rfl⟩))
                      · intro fl949 fh950 L946 w947 hp948
                        have hE951 := hp948.ex
                        have hE951z := Ex.size hE951
                        have hx952 := hp948.old 1 _ rfl rfl
                        have hx953 := hp948.old 45 _ rfl rfl
                        have hx954 := hp948.old 46 _ rfl rfl
                        have hx955 := hp948.old 47 _ rfl rfl
                        obtain ⟨_, hx956, rfl⟩ := hp948.new 5 57 rfl rfl
                        obtain ⟨_, hx957, rfl⟩ := hp948.new 6 58 rfl rfl
                        obtain ⟨_, hx958, rfl⟩ := hp948.new 7 59 rfl rfl
                        obtain ⟨_, hx959, rfl⟩ := hp948.new 8 60 rfl rfl
                        obtain ⟨_, hx960, rfl⟩ := hp948.new 9 61 rfl rfl
                        obtain ⟨_, hx961, rfl⟩ := hp948.new 10 62 rfl rfl
                        obtain ⟨_, hx962, rfl⟩ := hp948.new 11 63 rfl rfl
                        obtain ⟨_, hx963, rfl⟩ := hp948.new 12 64 rfl rfl
                        obtain ⟨_, hx964, rfl⟩ := hp948.new 15 67 rfl rfl
                        obtain ⟨_, hx965, rfl⟩ := hp948.new 16 68 rfl rfl
                        obtain ⟨_, hx966, rfl⟩ := hp948.new 17 69 rfl rfl
                        obtain ⟨_, hx967, rfl⟩ := hp948.new 18 70 rfl rfl
                        obtain ⟨_, hx968, rfl⟩ := hp948.new 21 73 rfl rfl
                        obtain ⟨_, hx969, rfl⟩ := hp948.new 22 74 rfl rfl
                        obtain ⟨_, hx970, rfl⟩ := hp948.new 23 75 rfl rfl
                        obtain ⟨_, hx971, rfl⟩ := hp948.new 24 76 rfl rfl
                        obtain ⟨_, hx972, rfl⟩ := hp948.new 25 77 rfl rfl
                        obtain ⟨_, hx973, rfl⟩ := hp948.new 26 78 rfl rfl
                        obtain ⟨_, hx974, rfl⟩ := hp948.new 27 79 rfl rfl
                        obtain ⟨_, hx975, rfl⟩ := hp948.new 28 80 rfl rfl
                        obtain ⟨_, hx976, rfl⟩ := hp948.new 29 81 rfl rfl
                        obtain ⟨_, hx977, rfl⟩ := hp948.new 30 82 rfl rfl
                        obtain ⟨_, hx978, rfl⟩ := hp948.new 31 83 rfl rfl
                        obtain ⟨_, hx979, rfl⟩ := hp948.new 32 84 rfl rfl
                        obtain ⟨_, hx980, rfl⟩ := hp948.new 33 85 rfl rfl
                        obtain ⟨_, hx981, rfl⟩ := hp948.new 34 86 rfl rfl
                        obtain ⟨_, hx982, rfl⟩ := hp948.new 35 87 rfl rfl
                        refine SeqR.done ?_
                        refine tn ?_
                        refine CW.sub (Sub.cons (d := 1) hx952 (Sub.cons (d := 45) hx953 (Sub.cons (d := 46) hx954 (Sub.cons (d := 47) hx955 (Sub.cons (d := 57) hx956 (Sub.cons (d := 58) hx957 (Sub.cons (d := 59) hx958 (Sub.cons (d := 60) hx959 (Sub.cons (d := 61) hx960 (Sub.cons (d := 62) hx961 (Sub.cons (d := 63) hx962 (Sub.cons (d := 64) hx963 (Sub.cons (d := 67) hx964 (Sub.cons (d := 68) hx965 (Sub.cons (d := 69) hx966 (Sub.cons (d := 70) hx967 (Sub.cons (d := 73) hx968 (Sub.cons (d := 74) hx969 (Sub.cons (d := 75) hx970 (Sub.cons (d := 76) hx971 (Sub.cons (d := 77) hx972 (Sub.cons (d := 78) hx973 (Sub.cons (d := 79) hx974 (Sub.cons (d := 80) hx975 (Sub.cons (d := 81) hx976 (Sub.cons (d := 82) hx977 (Sub.cons (d := 83) hx978 (Sub.cons (d := 84) hx979 (Sub.cons (d := 85) hx980 (Sub.cons (d := 86) hx981 (Sub.cons (d := 87) hx982 (Sub.nil _)))))))))))))))))))))))))))))))) ?_
                        refine CW.cond_t rfl rfl ?_
                        refine CW.seq ?_
                        refine CW.region ?_
                        refine SeqR.d1 rfl rfl rfl (yl_assign rfl rfl ?_)
                        refine SeqR.done ?_
                        refine tn ?_
                        refine CW.ret ?_
                        refine br ?_
                        refine tr ?_
                        refine tr ?_
                        have hB984 : B_i_GoodTable_1 p_0 k90 () = .ret false := by simp only [B_i_GoodTable_1, hb16, hb21, hb23, hb157, hb162, hb168, hL89, cond_true, cond_false, loopE_done, loopE_ret]
                        have hL983 : loopM (B_i_GoodTable_1 p_0) (p_0.Idxs.length - 0) 0 () = .ret false := hI135.symm.trans (loopM.ret hlt145 hB984)
                        refine br ?_
                        refine tr ?_
                        refine rr rfl (.cons rfl .nil) ?_
                        have hM985 : (i_GoodTable p_0) = (false) := by simp only [i_GoodTable, hb16, hb21, hb23, hb157, hb162, hb168, hL89, hL983, cond_true, cond_false, loopE_done, loopE_ret]
                        rw [hM985]
                        have q986 := Ex.trans hf143 hE152
                        have q987 := Below.only q986 hO155 (by omega)
                        have q988 := Ex.trans q987 hE951
                        exact ⟨rfl, q988⟩
                  · skip
                    have q990 := Box.ex hf140 hE152
                    have q991 := Box.only q990 hO155 (by omega)
                    refine CW.drawsI 36 (vgetI [DetI (.pointer (some ⟨b147, 0 + 0, none⟩)), DetI (.string (bs ((p_0.Idxs.getD k90 d_Idx).Name))), DetI (.bool ((i_areLetters ((p_0.Idxs.getD k90 d_Idx).Name) 1))), DetI (.bool (!(i_areLetters ((p_0.Idxs.getD k90 d_Idx).Name) 1))), DetI (.bool (!(i_areLetters ((p_0.Idxs.getD k90 d_Idx).Name) 1))), DetI (.pointer (some ⟨b147, 0 + 1, none⟩)), DetI (.int .i64 ((p_0.Idxs.getD k90 d_Idx).Col)), DetI (.pointer (some ⟨b7, 0 + 1, none⟩)), DetI (.slice A1 p_0.Cols.length c1), DetI (.int .i64 ((p_0.Cols.length : Int))), DetI (.int .i64 (IntKind.wrap .i64 ((p_0.Cols.length : Int) - 1))), DetI (.bool ((i_within ((p_0.Idxs.getD k90 d_Idx).Col) 1 (IntKind.wrap .i64 ((p_0.Cols.length : Int) - 1))))), DetI (.bool (!(i_within ((p_0.Idxs.getD k90 d_Idx).Col) 1 (IntKind.wrap .i64 ((p_0.Cols.length : Int) - 1))))), DetI (.bool (!(i_within ((p_0.Idxs.getD k90 d_Idx).Col) 1 (IntKind.wrap .i64 ((p_0.Cols.length : Int) - 1))))), DetI (.bool (!(i_within ((p_0.Idxs.getD k90 d_Idx).Col) 1 (IntKind.wrap .i64 ((p_0.Cols.length : Int) - 1))))), DetI (undef), DetI (undef), DetI (undef), DetI (undef), DetI (.bool (true)), DetI (.bool (true)), DetI (undef), DetI (undef), DetI (undef), DetI (undef), DetI (undef), DetI (undef), DetI (undef), DetI (undef), DetI (undef), DetI (undef), DetI (undef), DetI (undef), DetI (undef), DetI (undef), DetI (.bool (true))]) Try.follows rfl rfl rfl rfl rfl rfl (vgetI_stable ⟨StableI.det _, StableI.det _, StableI.det _, StableI.det _, StableI.det _, StableI.det _, StableI.det _, StableI.det _, StableI.det _, StableI.det _, StableI.det _, StableI.det _, StableI.det _, StableI.det _, StableI.det _, StableI.det _, StableI.det _, StableI.det _, StableI.det _, StableI.det _, StableI.det _, StableI.det _, StableI.det _, StableI.det _, StableI.det _, StableI.det _, StableI.det _, StableI.det _, StableI.det _, StableI.det _, StableI.det _, StableI.det _, StableI.det _, StableI.det _, StableI.det _, StableI.det _, trivial⟩) ⟨?_, ?_, ?_, ?_, ?_, ?_, ?_, ?_, ?_, ?_, ?_, ?_, ?_, ?_, ?_, ?_, ?_, ?_, ?_, ?_, ?_, ?_, ?_, ?_, ?_, ?_, ?_, ?_, ?_, ?_, ?_, ?_, ?_, ?_, ?_, ?_, trivial⟩ ?_
                    · intro L993 w994 hi995
                      have hE996 := hi995.ex
                      have hE996z := Ex.size hE996
                      have hx997 := hi995.old 6 _ rfl rfl
                      exact OpR.op' rfl (Yl.sameI (yl_fieldAddr Try.fd149_0 rfl hx997 ⟨fun _ _ => rfl, rfl⟩))
                    · intro L998 w999 hi1000
                      have hE1001 := hi1000.ex
                      have hE1001z := Ex.size hE1001
                      obtain ⟨_, _, _, hx1002, -, -, -, rfl⟩ := hi1000.dep 0 52 rfl rfl
                      have q1003 := Box.ex hB154 hE1001
                      exact OpR.op' rfl (Yl.sameI (yl_load1 Try.ty9 rfl hx1002 ((q1003.cell 0).trans rfl) ⟨fun _ _ => rfl, rfl⟩))
                    · intro L1004 w1005 hi1006
                      have hE1007 := hi1006.ex
                      have hE1007z := Ex.size hE1007
                      obtain ⟨_, _, _, hx1008, -, -, -, rfl⟩ := hi1006.dep 1 53 rfl rfl
                      refine OpR.op' rfl (yl_call Try.en120 rfl (opvs_cons hx1008 (opvs_cons rfl opvs_nil)) (Cal.mono (c_i_areLetters ((p_0.Idxs.getD k90 d_Idx).Name) 1 (okL.getD o3.2.2 ok_d_Idx _)) ?_))
                      rintro v1010 w1009 ⟨rfl, hE1011⟩
                      exact ⟨rfl, hE1011⟩
                    · intro L1012 w1013 hi1014
                      have hE1015 := hi1014.ex
                      have hE1015z := Ex.size hE1015
                      obtain ⟨_, _, _, hx1016, -, -, -, rfl⟩ := hi1014.dep 2 54 rfl rfl
                      exact OpR.op' rfl (Yl.sameI (yl_not rfl hx1016 ⟨fun _ _ => rfl, rfl⟩))
                    · intro L1017 w1018 hi1019
                      have hE1020 := hi1019.ex
                      have hE1020z := Ex.size hE1020
                      obtain ⟨_, _, _, hx1021, -, -, -, rfl⟩ := hi1019.dep 3 55 rfl rfl
                      exact OpR.op' rfl (Yl.sameI (yl_move rfl hx1021 ⟨fun _ _ => rfl, rfl⟩))
                    · intro L1022 w1023 hi1024
                      have hE1025 := hi1024.ex
                      have hE1025z := Ex.size hE1025
                      obtain ⟨_, _, _, hx1026, -, -, -, rfl⟩ := hi1024.dep 4 56 rfl rfl
                      have hx1027 := hi1024.old 6 _ rfl rfl
                      exact OpR.want rfl rfl hx1026 (not_t hb157) (Yl.sameI (yl_fieldAddr Try.fd149_1 rfl hx1027 ⟨fun _ _ => rfl, rfl⟩))
                    · intro L1028 w1029 hi1030
                      have hE1031 := hi1030.ex
                      have hE1031z := Ex.size hE1031
                      obtain ⟨_, _, _, hx1032, -, -, -, rfl⟩ := hi1030.dep 4 56 rfl rfl
                      obtain ⟨_, _, _, hx1033, -, -, -, rfl⟩ := hi1030.dep 5 57 rfl rfl
                      have q1034 := Box.ex hB154 hE1031
                      exact OpR.want rfl rfl hx1032 (not_t hb157) (Yl.sameI (yl_load1 Try.ty3 rfl hx1033 ((q1034.cell 1).trans rfl) ⟨fun _ _ => rfl, rfl⟩))
                    · intro L1035 w1036 hi1037
                      have hE1038 := hi1037.ex
                      have hE1038z := Ex.size hE1038
                      obtain ⟨_, _, _, hx1039, -, -, -, rfl⟩ := hi1037.dep 4 56 rfl rfl
                      have hx1040 := hi1037.old 1 _ rfl rfl
                      exact OpR.want rfl rfl hx1039 (not_t hb157) (Yl.sameI (yl_fieldAddr Try.fd84_1 rfl hx1040 ⟨fun _ _ => rfl, rfl⟩))
                    · intro L1041 w1042 hi1043
                      have hE1044 := hi1043.ex
                      have hE1044z := Ex.size hE1044
                      obtain ⟨_, _, _, hx1045, -, -, -, rfl⟩ := hi1043.dep 4 56 rfl rfl
                      obtain ⟨_, _, _, hx1046, -, -, -, rfl⟩ := hi1043.dep 7 59 rfl rfl
                      have q1047 := Box.ex q991 hE1044
                      exact OpR.want rfl rfl hx1045 (not_t hb157) (Yl.sameI (yl_load1 Try.ty73 rfl hx1046 ((q1047.cell 1).trans rfl) ⟨fun _ _ => rfl, rfl⟩))
                    · intro L1048 w1049 hi1050
                      have hE1051 := hi1050.ex
                      have hE1051z := Ex.size hE1051
                      obtain ⟨_, _, _, hx1052, -, -, -, rfl⟩ := hi1050.dep 4 56 rfl rfl
                      obtain ⟨_, _, _, hx1053, -, -, -, rfl⟩ := hi1050.dep 8 60 rfl rfl
                      exact OpR.want rfl rfl hx1052 (not_t hb157) (Yl.sameI (yl_len Try.un73 rfl hx1053 ⟨fun _ _ => rfl, rfl⟩))
                    · intro L1054 w1055 hi1056
                      have hE1057 := hi1056.ex
                      have hE1057z := Ex.size hE1057
                      obtain ⟨_, _, _, hx1058, -, -, -, rfl⟩ := hi1056.dep 4 56 rfl rfl
                      obtain ⟨_, _, _, hx1059, -, -, -, rfl⟩ := hi1056.dep 9 61 rfl rfl
                      exact OpR.want rfl rfl hx1058 (not_t hb157) (Yl.sameI (yl_sub rfl hx1059 rfl ⟨fun _ _ => rfl, rfl⟩))
                    · intro L1060 w1061 hi1062
                      have hE1063 := hi1062.ex
                      have hE1063z := Ex.size hE1063
                      obtain ⟨_, _, _, hx1064, -, -, -, rfl⟩ := hi1062.dep 4 56 rfl rfl
                      obtain ⟨_, _, _, hx1065, -, -, -, rfl⟩ := hi1062.dep 6 58 rfl rfl
                      obtain ⟨_, _, _, hx1066, -, -, -, rfl⟩ := hi1062.dep 10 62 rfl rfl
                      refine OpR.want rfl rfl hx1064 (not_t hb157) (yl_call Try.en56 rfl (opvs_cons hx1065 (opvs_cons rfl (opvs_cons hx1066 opvs_nil))) (Cal.mono (c_i_within ((p_0.Idxs.getD k90 d_Idx).Col) 1 (IntKind.wrap .i64 ((p_0.Cols.length : Int) - 1))) ?_))
                      rintro v1068 w1067 ⟨rfl, hE1069⟩
                      exact ⟨rfl, hE1069⟩
                    · intro L1070 w1071 hi1072
                      have hE1073 := hi1072.ex
                      have hE1073z := Ex.size hE1073
                      obtain ⟨_, _, _, hx1074, -, -, -, rfl⟩ := hi1072.dep 4 56 rfl rfl
                      obtain ⟨_, _, _, hx1075, -, -, -, rfl⟩ := hi1072.dep 11 63 rfl rfl
                      exact OpR.want rfl rfl hx1074 (not_t hb157) (Yl.sameI (yl_not rfl hx1075 ⟨fun _ _ => rfl, rfl⟩))
                    · intro L1076 w1077 hi1078
                      have hE1079 := hi1078.ex
                      have hE1079z := Ex.size hE1079
                      obtain ⟨_, _, _, hx1080, -, -, -, rfl⟩ := hi1078.dep 12 64 rfl rfl
                      obtain ⟨_, _, _, hx1081, -, -, -, rfl⟩ := hi1078.dep 4 56 rfl rfl
                      exact OpR.op' rfl (Yl.sameI (yl_pick_f rfl hx1081 (not_t hb157) hx1080 ⟨fun _ _ => rfl, rfl⟩))
                    · intro L1082 w1083 hi1084
                      have hE1085 := hi1084.ex
                      have hE1085z := Ex.size hE1085
                      obtain ⟨_, _, _, hx1086, -, -, -, rfl⟩ := hi1084.dep 13 65 rfl rfl
                      exact OpR.op' rfl (Yl.sameI (yl_move rfl hx1086 ⟨fun _ _ => rfl, rfl⟩))
                    · intro L1087 w1088 hi1089
                      have hE1090 := hi1089.ex
                      have hE1090z := Ex.size hE1090
                      obtain ⟨_, _, _, hx1091, -, -, -, rfl⟩ := hi1089.dep 14 66 rfl rfl
                      exact OpR.skip rfl rfl hx1091 (not_f hb162) ⟨rfl, Ex.refl _⟩
                    · intro L1092 w1093 hi1094
                      have hE1095 := hi1094.ex
                      have hE1095z := Ex.size hE1095
                      obtain ⟨_, _, _, hx1096, -, -, -, rfl⟩ := hi1094.dep 14 66 rfl rfl
                      exact OpR.skip rfl rfl hx1096 (not_f hb162) ⟨rfl, Ex.refl _⟩
                    · intro L1097 w1098 hi1099
                      have hE1100 := hi1099.ex
                      have hE1100z := Ex.size hE1100
                      obtain ⟨_, _, _, hx1101, -, -, -, rfl⟩ := hi1099.dep 14 66 rfl rfl
                      exact OpR.skip rfl rfl hx1101 (not_f hb162) ⟨rfl, Ex.refl _⟩
                    · intro L1102 w1103 hi1104
                      have hE1105 := hi1104.ex
                      have hE1105z := Ex.size hE1105
                      obtain ⟨_, _, _, hx1106, -, -, -, rfl⟩ := hi1104.dep 14 66 rfl rfl
                      exact OpR.skip rfl rfl hx1106 (not_f hb162) ⟨rfl, Ex.refl _⟩
                    · intro L1107 w1108 hi1109
                      have hE1110 := hi1109.ex
                      have hE1110z := Ex.size hE1110
                      obtain ⟨_, _, _, hx1111, -, -, -, rfl⟩ := hi1109.dep 18 70 rfl rfl
                      obtain ⟨_, _, _, hx1112, -, -, -, rfl⟩ := hi1109.dep 14 66 rfl rfl
                      exact OpR.op' rfl (Yl.sameI (yl_pick_t rfl hx1112 (not_f hb162) rfl ⟨fun _ _ => rfl, rfl⟩))
                    · intro L1113 w1114 hi1115
                      have hE1116 := hi1115.ex
                      have hE1116z := Ex.size hE1116
                      obtain ⟨_, _, _, hx1117, -, -, -, rfl⟩ := hi1115.dep 19 71 rfl rfl
                      exact OpR.op' rfl (Yl.sameI (yl_move rfl hx1117 ⟨fun _ _ => rfl, rfl⟩))
                    · intro L1118 w1119 hi1120
                      have hE1121 := hi1120.ex
                      have hE1121z := Ex.size hE1121
                      obtain ⟨_, _, _, hx1122, -, -, -, rfl⟩ := hi1120.dep 20 72 rfl rfl
                      exact OpR.skip rfl rfl hx1122 rfl ⟨rfl, Ex.refl _⟩
                    · intro L1123 w1124 hi1125
                      have hE1126 := hi1125.ex
                      have hE1126z := Ex.size hE1126
                      obtain ⟨_, _, _, hx1127, -, -, -, rfl⟩ := hi1125.dep 20 72 rfl rfl
                      exact OpR.skip rfl rfl hx1127 rfl ⟨rfl, Ex.refl _⟩
                    · intro L1128 w1129 hi1130
                      have hE1131 := hi1130.ex
                      have hE1131z := Ex.size hE1131
                      obtain ⟨_, _, _, hx1132, -, -, -, rfl⟩ := hi1130.dep 20 72 rfl rfl
                      exact OpR.skip rfl rfl hx1132 rfl ⟨rfl, Ex.refl _⟩
                    · intro L1133 w1134 hi1135
                      have hE1136 := hi1135.ex
                      have hE1136z := Ex.size hE1136
                      obtain ⟨_, _, _, hx1137, -, -, -, rfl⟩ := hi1135.dep 23 75 rfl rfl
                      exact OpR.undef rfl rfl hx1137 ⟨rfl, Ex.refl _⟩
                    · intro L1138 w1139 hi1140
                      have hE1141 := hi1140.ex
                      have hE1141z := Ex.size hE1141
                      obtain ⟨_, _, _, hx1142, -, -, -, rfl⟩ := hi1140.dep 23 75 rfl rfl
                      exact OpR.undef rfl rfl hx1142 ⟨rfl, Ex.refl _⟩
                    · intro L1143 w1144 hi1145
                      have hE1146 := hi1145.ex
                      have hE1146z := Ex.size hE1146
                      obtain ⟨_, _, _, hx1147, -, -, -, rfl⟩ := hi1145.dep 23 75 rfl rfl
                      exact OpR.undef rfl rfl hx1147 ⟨rfl, Ex.refl _⟩
                    · intro L1148 w1149 hi1150
                      have hE1151 := hi1150.ex
                      have hE1151z := Ex.size hE1151
                      obtain ⟨_, _, _, hx1152, -, -, -, rfl⟩ := hi1150.dep 23 75 rfl rfl
                      exact OpR.undef rfl rfl hx1152 ⟨rfl, Ex.refl _⟩
                    · intro L1153 w1154 hi1155
                      have hE1156 := hi1155.ex
                      have hE1156z := Ex.size hE1156
                      obtain ⟨_, _, _, hx1157, -, -, -, rfl⟩ := hi1155.dep 23 75 rfl rfl
                      exact OpR.undef rfl rfl hx1157 ⟨rfl, Ex.refl _⟩
                    · intro L1158 w1159 hi1160
                      have hE1161 := hi1160.ex
                      have hE1161z := Ex.size hE1161
                      obtain ⟨_, _, _, hx1162, -, -, -, rfl⟩ := hi1160.dep 23 75 rfl rfl
                      exact OpR.undef rfl rfl hx1162 ⟨rfl, Ex.refl _⟩
                    · intro L1163 w1164 hi1165
                      have hE1166 := hi1165.ex
                      have hE1166z := Ex.size hE1166
                      obtain ⟨_, _, _, hx1167, -, -, -, rfl⟩ := hi1165.dep 23 75 rfl rfl
                      exact OpR.undef rfl rfl hx1167 ⟨rfl, Ex.refl _⟩
                    · intro L1168 w1169 hi1170
                      have hE1171 := hi1170.ex
                      have hE1171z := Ex.size hE1171
                      obtain ⟨_, _, _, hx1172, -, -, -, rfl⟩ := hi1170.dep 23 75 rfl rfl
                      exact OpR.undef rfl rfl hx1172 ⟨rfl, Ex.refl _⟩
                    · intro L1173 w1174 hi1175
                      have hE1176 := hi1175.ex
                      have hE1176z := Ex.size hE1176
                      obtain ⟨_, _, _, hx1177, -, -, -, rfl⟩ := hi1175.dep 23 75 rfl rfl
                      exact OpR.undef rfl rfl hx1177 ⟨rfl, Ex.refl _⟩
                    · intro L1178 w1179 hi1180
                      have hE1181 := hi1180.ex
                      have hE1181z := Ex.size hE1181
                      obtain ⟨_, _, _, hx1182, -, -, -, rfl⟩ := hi1180.dep 23 75 rfl rfl
                      exact OpR.undef rfl rfl hx1182 ⟨rfl, Ex.refl _⟩
                    · intro L1183 w1184 hi1185
                      have hE1186 := hi1185.ex
                      have hE1186z := Ex.size hE1186
                      obtain ⟨_, _, _, hx1187, -, -, -, rfl⟩ := hi1185.dep 20 72 rfl rfl
                      exact OpR.skip rfl rfl hx1187 rfl ⟨rfl, Ex.refl _⟩
                    · intro L1188 w1189 hi1190
                      have hE1191 := hi1190.ex
                      have hE1191z := Ex.size hE1191
                      obtain ⟨_, _, _, hx1192, -, -, -, rfl⟩ := hi1190.dep 34 86 rfl rfl
                      obtain ⟨_, _, _, hx1193, -, -, -, rfl⟩ := hi1190.dep 20 72 rfl rfl
                      exact OpR.op' rfl (Yl.sameI (yl_pick_t rfl hx1193 rfl rfl ⟨fun _ _ => rfl, rfl⟩))
                    · intro fl1197 fh1198 L1194 w1195 hp1196
                      have hE1199 := hp1196.ex
                      have hE1199z := Ex.size hE1199
                      have hx1200 := hp1196.old 1 _ rfl rfl
                      have hx1201 := hp1196.old 45 _ rfl rfl
                      have hx1202 := hp1196.old 46 _ rfl rfl
                      have hx1203 := hp1196.old 47 _ rfl rfl
                      obtain ⟨_, hx1204, rfl⟩ := hp1196.new 5 57 rfl rfl
                      obtain ⟨_, hx1205, rfl⟩ := hp1196.new 6 58 rfl rfl
                      obtain ⟨_, hx1206, rfl⟩ := hp1196.new 7 59 rfl rfl
                      obtain ⟨_, hx1207, rfl⟩ := hp1196.new 8 60 rfl rfl
                      obtain ⟨_, hx1208, rfl⟩ := hp1196.new 9 61 rfl rfl
                      obtain ⟨_, hx1209, rfl⟩ := hp1196.new 10 62 rfl rfl
                      obtain ⟨_, hx1210, rfl⟩ := hp1196.new 11 63 rfl rfl
                      obtain ⟨_, hx1211, rfl⟩ := hp1196.new 12 64 rfl rfl
                      obtain ⟨_, hx1212, rfl⟩ := hp1196.new 15 67 rfl rfl
                      obtain ⟨_, hx1213, rfl⟩ := hp1196.new 16 68 rfl rfl
                      obtain ⟨_, hx1214, rfl⟩ := hp1196.new 17 69 rfl rfl
                      obtain ⟨_, hx1215, rfl⟩ := hp1196.new 18 70 rfl rfl
                      obtain ⟨_, hx1216, rfl⟩ := hp1196.new 21 73 rfl rfl
                      obtain ⟨_, hx1217, rfl⟩ := hp1196.new 22 74 rfl rfl
                      obtain ⟨_, hx1218, rfl⟩ := hp1196.new 23 75 rfl rfl
                      obtain ⟨_, hx1219, rfl⟩ := hp1196.new 24 76 rfl rfl
                      obtain ⟨_, hx1220, rfl⟩ := hp1196.new 25 77 rfl rfl
                      obtain ⟨_, hx1221, rfl⟩ := hp1196.new 26 78 rfl rfl
                      obtain ⟨_, hx1222, rfl⟩ := hp1196.new 27 79 rfl rfl
                      obtain ⟨_, hx1223, rfl⟩ := hp1196.new 28 80 rfl rfl
                      obtain ⟨_, hx1224, rfl⟩ := hp1196.new 29 81 rfl rfl
                      obtain ⟨_, hx1225, rfl⟩ := hp1196.new 30 82 rfl rfl
                      obtain ⟨_, hx1226, rfl⟩ := hp1196.new 31 83 rfl rfl
                      obtain ⟨_, hx1227, rfl⟩ := hp1196.new 32 84 rfl rfl
                      obtain ⟨_, hx1228, rfl⟩ := hp1196.new 33 85 rfl rfl
                      obtain ⟨_, hx1229, rfl⟩ := hp1196.new 34 86 rfl rfl
                      obtain ⟨_, hx1230, rfl⟩ := hp1196.new 35 87 rfl rfl
                      refine SeqR.done ?_
                      refine tn ?_
                      refine CW.sub (Sub.cons (d := 1) hx1200 (Sub.cons (d := 45) hx1201 (Sub.cons (d := 46) hx1202 (Sub.cons (d := 47) hx1203 (Sub.cons (d := 57) hx1204 (Sub.cons (d := 58) hx1205 (Sub.cons (d := 59) hx1206 (Sub.cons (d := 60) hx1207 (Sub.cons (d := 61) hx1208 (Sub.cons (d := 62) hx1209 (Sub.cons (d := 63) hx1210 (Sub.cons (d := 64) hx1211 (Sub.cons (d := 67) hx1212 (Sub.cons (d := 68) hx1213 (Sub.cons (d := 69) hx1214 (Sub.cons (d := 70) hx1215 (Sub.cons (d := 73) hx1216 (Sub.cons (d := 74) hx1217 (Sub.cons (d := 75) hx1218 (Sub.cons (d := 76) hx1219 (Sub.cons (d := 77) hx1220 (Sub.cons (d := 78) hx1221 (Sub.cons (d := 79) hx1222 (Sub.cons (d := 80) hx1223 (Sub.cons (d := 81) hx1224 (Sub.cons (d := 82) hx1225 (Sub.cons (d := 83) hx1226 (Sub.cons (d := 84) hx1227 (Sub.cons (d := 85) hx1228 (Sub.cons (d := 86) hx1229 (Sub.cons (d := 87) hx1230 (Sub.nil _)))))))))))))))))))))))))))))))) ?_
                      refine CW.cond_t rfl rfl ?_
                      refine CW.seq ?_
                      refine CW.region ?_
                      refine SeqR.d1 rfl rfl rfl (yl_assign rfl rfl ?_)
                      refine SeqR.done ?_
                      refine tn ?_
                      refine CW.ret ?_
                      refine br ?_
                      refine tr ?_
                      refine tr ?_
                      have hB1232 : B_i_GoodTable_1 p_0 k90 () = .ret false := by simp only [B_i_GoodTable_1, hb16, hb21, hb23, hb157, hb162, hL89, cond_true, cond_false, loopE_done, loopE_ret]
                      have hL1231 : loopM (B_i_GoodTable_1 p_0) (p_0.Idxs.length - 0) 0 () = .ret false := hI135.symm.trans (loopM.ret hlt145 hB1232)
                      refine br ?_
                      refine tr ?_
                      refine rr rfl (.cons rfl .nil) ?_
                      have hM1233 : (i_GoodTable p_0) = (false) := by simp only [i_GoodTable, hb16, hb21, hb23, hb157, hb162, hL89, hL1231, cond_true, cond_false, loopE_done, loopE_ret]
                      rw [hM1233]
                      have q1234 := Ex.trans hf143 hE152
                      have q1235 := Below.only q1234 hO155 (by omega)
                      have q1236 := Ex.trans q1235 hE1199
                      exact ⟨rfl, q1236⟩
                · skip
                  refine CW.drawsI 36 (vgetI [DetI (.pointer (some ⟨b147, 0 + 0, none⟩)), DetI (.string (bs ((p_0.Idxs.getD k90 d_Idx).Name))), DetI (.bool ((i_areLetters ((p_0.Idxs.getD k90 d_Idx).Name) 1))), DetI (.bool (!(i_areLetters ((p_0.Idxs.getD k90 d_Idx).Name) 1))), DetI (.bool (!(i_areLetters ((p_0.Idxs.getD k90 d_Idx).Name) 1))), DetI (undef), DetI (undef), DetI (undef), DetI (undef), DetI (undef), DetI (undef), DetI (undef), DetI (undef), DetI (.bool (true)), DetI (.bool (true)), DetI (undef), DetI (undef), DetI (undef), DetI (undef), DetI (.bool (true)), DetI (.bool (true)), DetI (undef), DetI (undef), DetI (undef), DetI (undef), DetI (undef), DetI (undef), DetI (undef), DetI (undef), DetI (undef), DetI (undef), DetI (undef), DetI (undef), DetI (undef), DetI (undef), DetI (.bool (true))]) Try.follows rfl rfl rfl rfl rfl rfl (vgetI_stable ⟨StableI.det _, StableI.det _, StableI.det _, StableI.det _, StableI.det _, StableI.det _, StableI.det _, StableI.det _, StableI.det _, StableI.det _, StableI.det _, StableI.det _, StableI.det _, StableI.det _, StableI.det _, StableI.det _, StableI.det _, StableI.det _, StableI.det _, StableI.det _, StableI.det _, StableI.det _, StableI.det _, StableI.det _, StableI.det _, StableI.det _, StableI.det _, StableI.det _, StableI.det _, StableI.det _, StableI.det _, StableI.det _, StableI.det _, StableI.det _, StableI.det _, StableI.det _, trivial⟩) ⟨?_, ?_, ?_, ?_, ?_, ?_, ?_, ?_, ?_, ?_, ?_, ?_, ?_, ?_, ?_, ?_, ?_, ?_, ?_, ?_, ?_, ?_, ?_, ?_, ?_, ?_, ?_, ?_, ?_, ?_, ?_, ?_, ?_, ?_, ?_, ?_, trivial⟩ ?_
                  · intro L1238 w1239 hi1240
                    have hE1241 := hi1240.ex
                    have hE1241z := Ex.size hE1241
                    have hx1242 := hi1240.old 6 _ rfl rfl
                    exact OpR.op' rfl (Yl.sameI (yl_fieldAddr Try.fd149_0 rfl hx1242 ⟨fun _ _ => rfl, rfl⟩))
                  · intro L1243 w1244 hi1245
                    have hE1246 := hi1245.ex
                    have hE1246z := Ex.size hE1246
                    obtain ⟨_, _, _, hx1247, -, -, -, rfl⟩ := hi1245.dep 0 52 rfl rfl
                    have q1248 := Box.ex hB154 hE1246
                    exact OpR.op' rfl (Yl.sameI (yl_load1 Try.ty9 rfl hx1247 ((q1248.cell 0).trans rfl) ⟨fun _ _ => rfl, rfl⟩))
                  · intro L1249 w1250 hi1251
                    have hE1252 := hi1251.ex
                    have hE1252z := Ex.size hE1252
                    obtain ⟨_, _, _, hx1253, -, -, -, rfl⟩ := hi1251.dep 1 53 rfl rfl
                    refine OpR.op' rfl (yl_call Try.en120 rfl (opvs_cons hx1253 (opvs_cons rfl opvs_nil)) (Cal.mono (c_i_areLetters ((p_0.Idxs.getD k90 d_Idx).Name) 1 (okL.getD o3.2.2 ok_d_Idx _)) ?_))
                    rintro v1255 w1254 ⟨rfl, hE1256⟩
                    exact ⟨rfl, hE1256⟩
                  · intro L1257 w1258 hi1259
                    have hE1260 := hi1259.ex
                    have hE1260z := Ex.size hE1260
                    obtain ⟨_, _, _, hx1261, -, -, -, rfl⟩ := hi1259.dep 2 54 rfl rfl
                    exact OpR.op' rfl (Yl.sameI (yl_not rfl hx1261 ⟨fun _ _ => rfl, rfl⟩))
                  · intro L1262 w1263 hi1264
                    have hE1265 := hi1264.ex
                    have hE1265z := Ex.size hE1265
                    obtain ⟨_, _, _, hx1266, -, -, -, rfl⟩ := hi1264.dep 3 55 rfl rfl
                    exact OpR.op' rfl (Yl.sameI (yl_move rfl hx1266 ⟨fun _ _ => rfl, rfl⟩))
                  · intro L1267 w1268 hi1269
                    have hE1270 := hi1269.ex
                    have hE1270z := Ex.size hE1270
                    obtain ⟨_, _, _, hx1271, -, -, -, rfl⟩ := hi1269.dep 4 56 rfl rfl
                    exact OpR.skip rfl rfl hx1271 (not_f hb157) ⟨rfl, Ex.refl _⟩
                  · intro L1272 w1273 hi1274
                    have hE1275 := hi1274.ex
                    have hE1275z := Ex.size hE1275
                    obtain ⟨_, _, _, hx1276, -, -, -, rfl⟩ := hi1274.dep 4 56 rfl rfl
                    exact OpR.skip rfl rfl hx1276 (not_f hb157) ⟨rfl, Ex.refl _⟩
                  · intro L1277 w1278 hi1279
                    have hE1280 := hi1279.ex
                    have hE1280z := Ex.size hE1280
                    obtain ⟨_, _, _, hx1281, -, -, -, rfl⟩ := hi1279.dep 4 56 rfl rfl
                    exact OpR.skip rfl rfl hx1281 (not_f hb157) ⟨rfl, Ex.refl _⟩
                  · intro L1282 w1283 hi1284
                    have hE1285 := hi1284.ex
                    have hE1285z := Ex.size hE1285
                    obtain ⟨_, _, _, hx1286, -, -, -, rfl⟩ := hi1284.dep 4 56 rfl rfl
                    exact OpR.skip rfl rfl hx1286 (not_f hb157) ⟨rfl, Ex.refl _⟩
                  · intro L1287 w1288 hi1289
                    have hE1290 := hi1289.ex
                    have hE1290z := Ex.size hE1290
                    obtain ⟨_, _, _, hx1291, -, -, -, rfl⟩ := hi1289.dep 4 56 rfl rfl
                    exact OpR.skip rfl rfl hx1291 (not_f hb157) ⟨rfl, Ex.refl _⟩
                  · intro L1292 w1293 hi1294
                    have hE1295 := hi1294.ex
                    have hE1295z := Ex.size hE1295
                    obtain ⟨_, _, _, hx1296, -, -, -, rfl⟩ := hi1294.dep 4 56 rfl rfl
                    exact OpR.skip rfl rfl hx1296 (not_f hb157) ⟨rfl, Ex.refl _⟩
                  · intro L1297 w1298 hi1299
                    have hE1300 := hi1299.ex
                    have hE1300z := Ex.size hE1300
                    obtain ⟨_, _, _, hx1301, -, -, -, rfl⟩ := hi1299.dep 4 56 rfl rfl
                    exact OpR.skip rfl rfl hx1301 (not_f hb157) ⟨rfl, Ex.refl _⟩
                  · intro L1302 w1303 hi1304
                    have hE1305 := hi1304.ex
                    have hE1305z := Ex.size hE1305
                    obtain ⟨_, _, _, hx1306, -, -, -, rfl⟩ := hi1304.dep 4 56 rfl rfl
                    exact OpR.skip rfl rfl hx1306 (not_f hb157) ⟨rfl, Ex.refl _⟩
                  · intro L1307 w1308 hi1309
                    have hE1310 := hi1309.ex
                    have hE1310z := Ex.size hE1310
                    obtain ⟨_, _, _, hx1311, -, -, -, rfl⟩ := hi1309.dep 12 64 rfl rfl
                    obtain ⟨_, _, _, hx1312, -, -, -, rfl⟩ := hi1309.dep 4 56 rfl rfl
                    exact OpR.op' rfl (Yl.sameI (yl_pick_t rfl hx1312 (not_f hb157) rfl ⟨fun _ _ => rfl, rfl⟩))
                  · intro L1313 w1314 hi1315
                    have hE1316 := hi1315.ex
                    have hE1316z := Ex.size hE1316
                    obtain ⟨_, _, _, hx1317, -, -, -, rfl⟩ := hi1315.dep 13 65 rfl rfl
                    exact OpR.op' rfl (Yl.sameI (yl_move rfl hx1317 ⟨fun _ _ => rfl, rfl⟩))
                  · intro L1318 w1319 hi1320
                    have hE1321 := hi1320.ex
                    have hE1321z := Ex.size hE1321
                    obtain ⟨_, _, _, hx1322, -, -, -, rfl⟩ := hi1320.dep 14 66 rfl rfl
                    exact OpR.skip rfl rfl hx1322 rfl ⟨rfl, Ex.refl _⟩
                  · intro L1323 w1324 hi1325
                    have hE1326 := hi1325.ex
                    have hE1326z := Ex.size hE1326
                    obtain ⟨_, _, _, hx1327, -, -, -, rfl⟩ := hi1325.dep 14 66 rfl rfl
                    exact OpR.skip rfl rfl hx1327 rfl ⟨rfl, Ex.refl _⟩
                  · intro L1328 w1329 hi1330
                    have hE1331 := hi1330.ex
                    have hE1331z := Ex.size hE1331
                    obtain ⟨_, _, _, hx1332, -, -, -, rfl⟩ := hi1330.dep 14 66 rfl rfl
                    exact OpR.skip rfl rfl hx1332 rfl ⟨rfl, Ex.refl _⟩
                  · intro L1333 w1334 hi1335
                    have hE1336 := hi1335.ex
                    have hE1336z := Ex.size hE1336
                    obtain ⟨_, _, _, hx1337, -, -, -, rfl⟩ := hi1335.dep 14 66 rfl rfl
                    exact OpR.skip rfl rfl hx1337 rfl ⟨rfl, Ex.refl _⟩
                  · intro L1338 w1339 hi1340
                    have hE1341 := hi1340.ex
                    have hE1341z := Ex.size hE1341
                    obtain ⟨_, _, _, hx1342, -, -, -, rfl⟩ := hi1340.dep 18 70 rfl rfl
                    obtain ⟨_, _, _, hx1343, -, -, -, rfl⟩ := hi1340.dep 14 66 rfl rfl
                    exact OpR.op' rfl (Yl.sameI (yl_pick_t rfl hx1343 rfl rfl ⟨fun _ _ => rfl, rfl⟩))
                  · intro L1344 w1345 hi1346
                    have hE1347 := hi1346.ex
                    have hE1347z := Ex.size hE1347
                    obtain ⟨_, _, _, hx1348, -, -, -, rfl⟩ := hi1346.dep 19 71 rfl rfl
                    exact OpR.op' rfl (Yl.sameI (yl_move rfl hx1348 ⟨fun _ _ => rfl, rfl⟩))
                  · intro L1349 w1350 hi1351
                    have hE1352 := hi1351.ex
                    have hE1352z := Ex.size hE1352
                    obtain ⟨_, _, _, hx1353, -, -, -, rfl⟩ := hi1351.dep 20 72 rfl rfl
                    exact OpR.skip rfl rfl hx1353 rfl ⟨rfl, Ex.refl _⟩
                  · intro L1354 w1355 hi1356
                    have hE1357 := hi1356.ex
                    have hE1357z := Ex.size hE1357
                    obtain ⟨_, _, _, hx1358, -, -, -, rfl⟩ := hi1356.dep 20 72 rfl rfl
                    exact OpR.skip rfl rfl hx1358 rfl ⟨rfl, Ex.refl _⟩
                  · intro L1359 w1360 hi1361
                    have hE1362 := hi1361.ex
                    have hE1362z := Ex.size hE1362
                    obtain ⟨_, _, _, hx1363, -, -, -, rfl⟩ := hi1361.dep 20 72 rfl rfl
                    exact OpR.skip rfl rfl hx1363 rfl ⟨rfl, Ex.refl _⟩
                  · intro L1364 w1365 hi1366
                    have hE1367 := hi1366.ex
                    have hE1367z := Ex.size hE1367
                    obtain ⟨_, _, _, hx1368, -, -, -, rfl⟩ := hi1366.dep 23 75 rfl rfl
                    exact OpR.undef rfl rfl hx1368 ⟨rfl, Ex.refl _⟩
                  · intro L1369 w1370 hi1371
                    have hE1372 := hi1371.ex
                    have hE1372z := Ex.size hE1372
                    obtain ⟨_, _, _, hx1373, -, -, -, rfl⟩ := hi1371.dep 23 75 rfl rfl
                    exact OpR.undef rfl rfl hx1373 ⟨rfl, Ex.refl _⟩
                  · intro L1374 w1375 hi1376
                    have hE1377 := hi1376.ex
                    have hE1377z := Ex.size hE1377
                    obtain ⟨_, _, _, hx1378, -, -, -, rfl⟩ := hi1376.dep 23 75 rfl rfl
                    exact OpR.undef rfl rfl hx1378 ⟨rfl, Ex.refl _⟩
                  · intro L1379 w1380 hi1381
                    have hE1382 := hi1381.ex
                    have hE1382z := Ex.size hE1382
                    obtain ⟨_, _, _, hx1383, -, -, -, rfl⟩ := hi1381.dep 23 75 rfl rfl
                    exact OpR.undef rfl rfl hx1383 ⟨rfl, Ex.refl _⟩
                  · intro L1384 w1385 hi1386
                    have hE1387 := hi1386.ex
                    have hE1387z := Ex.size hE1387
                    obtain ⟨_, _, _, hx1388, -, -, -, rfl⟩ := hi1386.dep 23 75 rfl rfl
                    exact OpR.undef rfl rfl hx1388 ⟨rfl, Ex.refl _⟩
                  · intro L1389 w1390 hi1391
                    have hE1392 := hi1391.ex
                    have hE1392z := Ex.size hE1392
                    obtain ⟨_, _, _, hx1393, -, -, -, rfl⟩ := hi1391.dep 23 75 rfl rfl
                    exact OpR.undef rfl rfl hx1393 ⟨rfl, Ex.refl _⟩
                  · intro L1394 w1395 hi1396
                    have hE1397 := hi1396.ex
                    have hE1397z := Ex.size hE1397
                    obtain ⟨_, _, _, hx1398, -, -, -, rfl⟩ := hi1396.dep 23 75 rfl rfl
                    exact OpR.undef rfl rfl hx1398 ⟨rfl, Ex.refl _⟩
                  · intro L1399 w1400 hi1401
                    have hE1402 := hi1401.ex
                    have hE1402z := Ex.size hE1402
                    obtain ⟨_, _, _, hx1403, -, -, -, rfl⟩ := hi1401.dep 23 75 rfl rfl
                    exact OpR.undef rfl rfl hx1403 ⟨rfl, Ex.refl _⟩
                  · intro L1404 w1405 hi1406
                    have hE1407 := hi1406.ex
                    have hE1407z := Ex.size hE1407
                    obtain ⟨_, _, _, hx1408, -, -, -, rfl⟩ := hi1406.dep 23 75 rfl rfl
                    exact OpR.undef rfl rfl hx1408 ⟨rfl, Ex.refl _⟩
                  · intro L1409 w1410 hi1411
                    have hE1412 := hi1411.ex
                    have hE1412z := Ex.size hE1412
                    obtain ⟨_, _, _, hx1413, -, -, -, rfl⟩ := hi1411.dep 23 75 rfl rfl
                    exact OpR.undef rfl rfl hx1413 ⟨rfl, Ex.refl _⟩
                  · intro L1414 w1415 hi1416
                    have hE1417 := hi1416.ex
                    have hE1417z := Ex.size hE1417
                    obtain ⟨_, _, _, hx1418, -, -, -, rfl⟩ := hi1416.dep 20 72 rfl rfl
                    exact OpR.skip rfl rfl hx1418 rfl ⟨rfl, Ex.refl _⟩
                  · intro L1419 w1420 hi1421
                    have hE1422 := hi1421.ex
                    have hE1422z := Ex.size hE1422
                    obtain ⟨_, _, _, hx1423, -, -, -, rfl⟩ := hi1421.dep 34 86 rfl rfl
                    obtain ⟨_, _, _, hx1424, -, -, -, rfl⟩ := hi1421.dep 20 72 rfl rfl
                    exact OpR.op' rfl (Yl.sameI (yl_pick_t rfl hx1424 rfl rfl ⟨fun _ _ => rfl, rfl⟩))
                  · intro fl1428 fh1429 L1425 w1426 hp1427
                    have hE1430 := hp1427.ex
                    have hE1430z := Ex.size hE1430
                    have hx1431 := hp1427.old 1 _ rfl rfl
                    have hx1432 := hp1427.old 45 _ rfl rfl
                    have hx1433 := hp1427.old 46 _ rfl rfl
                    have hx1434 := hp1427.old 47 _ rfl rfl
                    obtain ⟨_, hx1435, rfl⟩ := hp1427.new 5 57 rfl rfl
                    obtain ⟨_, hx1436, rfl⟩ := hp1427.new 6 58 rfl rfl
                    obtain ⟨_, hx1437, rfl⟩ := hp1427.new 7 59 rfl rfl
                    obtain ⟨_, hx1438, rfl⟩ := hp1427.new 8 60 rfl rfl
                    obtain ⟨_, hx1439, rfl⟩ := hp1427.new 9 61 rfl rfl
                    obtain ⟨_, hx1440, rfl⟩ := hp1427.new 10 62 rfl rfl
                    obtain ⟨_, hx1441, rfl⟩ := hp1427.new 11 63 rfl rfl
                    obtain ⟨_, hx1442, rfl⟩ := hp1427.new 12 64 rfl rfl
                    obtain ⟨_, hx1443, rfl⟩ := hp1427.new 15 67 rfl rfl
                    obtain ⟨_, hx1444, rfl⟩ := hp1427.new 16 68 rfl rfl
                    obtain ⟨_, hx1445, rfl⟩ := hp1427.new 17 69 rfl rfl
                    obtain ⟨_, hx1446, rfl⟩ := hp1427.new 18 70 rfl rfl
                    obtain ⟨_, hx1447, rfl⟩ := hp1427.new 21 73 rfl rfl
                    obtain ⟨_, hx1448, rfl⟩ := hp1427.new 22 74 rfl rfl
                    obtain ⟨_, hx1449, rfl⟩ := hp1427.new 23 75 rfl rfl
                    obtain ⟨_, hx1450, rfl⟩ := hp1427.new 24 76 rfl rfl
                    obtain ⟨_, hx1451, rfl⟩ := hp1427.new 25 77 rfl rfl
                    obtain ⟨_, hx1452, rfl⟩ := hp1427.new 26 78 rfl rfl
                    obtain ⟨_, hx1453, rfl⟩ := hp1427.new 27 79 rfl rfl
                    obtain ⟨_, hx1454, rfl⟩ := hp1427.new 28 80 rfl rfl
                    obtain ⟨_, hx1455, rfl⟩ := hp1427.new 29 81 rfl rfl
                    obtain ⟨_, hx1456, rfl⟩ := hp1427.new 30 82 rfl rfl
                    obtain ⟨_, hx1457, rfl⟩ := hp1427.new 31 83 rfl rfl
                    obtain ⟨_, hx1458, rfl⟩ := hp1427.new 32 84 rfl rfl
                    obtain ⟨_, hx1459, rfl⟩ := hp1427.new 33 85 rfl rfl
                    obtain ⟨_, hx1460, rfl⟩ := hp1427.new 34 86 rfl rfl
                    obtain ⟨_, hx1461, rfl⟩ := hp1427.new 35 87 rfl rfl
                    refine SeqR.done ?_
                    refine tn ?_
                    refine CW.sub (Sub.cons (d := 1) hx1431 (Sub.cons (d := 45) hx1432 (Sub.cons (d := 46) hx1433 (Sub.cons (d := 47) hx1434 (Sub.cons (d := 57) hx1435 (Sub.cons (d := 58) hx1436 (Sub.cons (d := 59) hx1437 (Sub.cons (d := 60) hx1438 (Sub.cons (d := 61) hx1439 (Sub.cons (d := 62) hx1440 (Sub.cons (d := 63) hx1441 (Sub.cons (d := 64) hx1442 (Sub.cons (d := 67) hx1443 (Sub.cons (d := 68) hx1444 (Sub.cons (d := 69) hx1445 (Sub.cons (d := 70) hx1446 (Sub.cons (d := 73) hx1447 (Sub.cons (d := 74) hx1448 (Sub.cons (d := 75) hx1449 (Sub.cons (d := 76) hx1450 (Sub.cons (d := 77) hx1451 (Sub.cons (d := 78) hx1452 (Sub.cons (d := 79) hx1453 (Sub.cons (d := 80) hx1454 (Sub.cons (d := 81) hx1455 (Sub.cons (d := 82) hx1456 (Sub.cons (d := 83) hx1457 (Sub.cons (d := 84) hx1458 (Sub.cons (d := 85) hx1459 (Sub.cons (d := 86) hx1460 (Sub.cons (d := 87) hx1461 (Sub.nil _)))))))))))))))))))))))))))))))) ?_
                    refine CW.cond_t rfl rfl ?_
                    refine CW.seq ?_
                    refine CW.region ?_
                    refine SeqR.d1 rfl rfl rfl (yl_assign rfl rfl ?_)
                    refine SeqR.done ?_
                    refine tn ?_
                    refine CW.ret ?_
                    refine br ?_
                    refine tr ?_
                    refine tr ?_
                    have hB1463 : B_i_GoodTable_1 p_0 k90 () = .ret false := by simp only [B_i_GoodTable_1, hb16, hb21, hb23, hb157, hL89, cond_true, cond_false, loopE_done, loopE_ret]
                    have hL1462 : loopM (B_i_GoodTable_1 p_0) (p_0.Idxs.length - 0) 0 () = .ret false := hI135.symm.trans (loopM.ret hlt145 hB1463)
                    refine br ?_
                    refine tr ?_
                    refine rr rfl (.cons rfl .nil) ?_
                    have hM1464 : (i_GoodTable p_0) = (false) := by simp only [i_GoodTable, hb16, hb21, hb23, hb157, hL89, hL1462, cond_true, cond_false, loopE_done, loopE_ret]
                    rw [hM1464]
                    have q1465 := Ex.trans hf143 hE152
                    have q1466 := Below.only q1465 hO155 (by omega)
                    have q1467 := Ex.trans q1466 hE1430
                    exact ⟨rfl, q1467⟩
              · skip
                refine CW.seq ?_
                refine CW.region ?_
                refine SeqR.d1 rfl rfl rfl (yl_lss rfl rfl rfl ?_)
                refine SeqR.done ?_
                refine tn ?_
                refine CW.seq ?_
                refine CW.cond_f rfl (lt_f hlt145) ?_
                refine CW.exit ?_
                refine tx ?_
                refine tx ?_
                have hL1468 : loopM (B_i_GoodTable_1 p_0) (p_0.Idxs.length - 0) 0 () = .done () := hI135.symm.trans (loopM.stop hlt145)
                refine bx ?_
                refine tn ?_
                refine CW.seq ?_
                refine CW.region ?_
                refine SeqR.d1 rfl rfl rfl (yl_assign rfl rfl ?_)
                refine SeqR.done ?_
                refine tn ?_
                refine CW.ret ?_
                refine rr rfl (.cons rfl .nil) ?_
                have hM1469 : (i_GoodTable p_0) = (true) := by simp only [i_GoodTable, hb16, hb21, hb23, hL89, hL1468, cond_true, cond_false, loopE_done, loopE_ret]
                rw [hM1469]
                exact ⟨rfl, hf143⟩
    · skip
      refine SeqR.z rfl rfl rfl rfl rfl (not_f hb21) ?_
      refine SeqR.z rfl rfl rfl rfl rfl (not_f hb21) ?_
      refine SeqR.z rfl rfl rfl rfl rfl (not_f hb21) ?_
      refine SeqR.z rfl rfl rfl rfl rfl (not_f hb21) ?_
      refine SeqR.d1 rfl rfl rfl (yl_pick_t rfl rfl (not_f hb21) rfl ?_)
      refine SeqR.done ?_
      refine tn ?_
      refine CW.cond_t rfl rfl ?_
      refine CW.seq ?_
      refine CW.region ?_
      refine SeqR.d1 rfl rfl rfl (yl_assign rfl rfl ?_)
      refine SeqR.done ?_
      refine tn ?_
      refine CW.ret ?_
      refine tr ?_
      refine rr rfl (.cons rfl .nil) ?_
      have hM1470 : (i_GoodTable p_0) = (false) := by simp only [i_GoodTable, hb16, hb21, cond_true, cond_false, loopE_done, loopE_ret]
      rw [hM1470]
      have q1471 := Ex.trans (Ex.refl w) hE12
      have q1472 := Ex.trans q1471 hE15
      have q1473 := Ex.trans q1472 hE20
      exact ⟨rfl, q1473⟩
  · skip
    refine SeqR.z rfl rfl rfl rfl rfl (not_f hb16) ?_
    refine SeqR.z rfl rfl rfl rfl rfl (not_f hb16) ?_
    refine SeqR.z rfl rfl rfl rfl rfl (not_f hb16) ?_
    refine SeqR.z rfl rfl rfl rfl rfl (not_f hb16) ?_
    refine SeqR.z rfl rfl rfl rfl rfl (not_f hb16) ?_
    refine SeqR.d1 rfl rfl rfl (yl_pick_t rfl rfl (not_f hb16) rfl ?_)
    refine SeqR.d1 rfl rfl rfl (yl_move rfl rfl ?_)
    refine SeqR.z rfl rfl rfl rfl rfl rfl ?_
    refine SeqR.z rfl rfl rfl rfl rfl rfl ?_
    refine SeqR.z rfl rfl rfl rfl rfl rfl ?_
    refine SeqR.z rfl rfl rfl rfl rfl rfl ?_
    refine SeqR.d1 rfl rfl rfl (yl_pick_t rfl rfl rfl rfl ?_)
    refine SeqR.done ?_
    refine tn ?_
    refine CW.cond_t rfl rfl ?_
    refine CW.seq ?_
    refine CW.region ?_
    refine SeqR.d1 rfl rfl rfl (yl_assign rfl rfl ?_)
    refine SeqR.done ?_
    refine tn ?_
    refine CW.ret ?_
    refine tr ?_
    refine rr rfl (.cons rfl .nil) ?_
    have hM1474 : (i_GoodTable p_0) = (false) := by simp only [i_GoodTable, hb16, cond_true, cond_false, loopE_done, loopE_ret]
    rw [hM1474]
    have q1475 := Ex.trans (Ex.refl w) hE12
    have q1476 := Ex.trans q1475 hE15
    exact ⟨rfl, q1476⟩
set_option maxRecDepth 100000 in
set_option maxHeartbeats 2000000 in
theorem c_g_slices_IndexFunc_string {A1 : Option Addr} {c1 : Nat} {g3 : Nat} {cp4 : List Value} {w : World} (p_s : List Str) (p_f : Str → Bool) (h1 : RdS w (Iv 0 w.heap.size) (RF e_Str) 1 A1 p_s.length c1 p_s) (hen5 : Enters Try.prog g3) (hfn6 : ∀ (w1 : World) (y0 : Str), Ex w w1 → okS y0 → Cal Try.prog g3 (([.string (bs (y0))] : List Value) ++ cp4).toArray w1 fun v w2 => v = .bool (p_f y0) ∧ Ex w1 w2) (o2 : (okL okS) p_s) : Cal Try.prog 136 #[.slice A1 p_s.length c1, .func (.func g3) #[] cp4.toArray] w fun v w' => v = .int .i64 ((g_slices_IndexFunc_string p_s p_f)) ∧ Ex w w' := by
  have hol7 := o2.1
  refine Cal.of (vs := [.slice A1 p_s.length c1, .func (.func g3) #[] cp4.toArray]) Try.func136 rfl Try.ntmps136 rfl ?_
  refine CW.seq ?_
  refine CW.region ?_
  refine SeqR.d1 rfl rfl rfl (yl_assign rfl rfl ?_)
  refine SeqR.done ?_
  refine tn ?_
  refine CW.seq ?_
  refine CW.seq ?_
  refine CW.region ?_
  refine SeqR.d1 rfl rfl rfl (yl_move rfl rfl ?_)
  refine SeqR.d1 rfl rfl rfl (yl_len Try.un73 rfl rfl ?_)
  refine SeqR.d1 rfl rfl rfl (yl_move rfl rfl ?_)
  refine SeqR.done ?_
  refine tn ?_
  refine CW.block ?_
  refine CW.loop (fun m9 L10 w11 => ∃ (k8 : Nat), m9 = p_s.length - k8 ∧ k8 ≤ p_s.length ∧ lkp L10 0 = some (.slice A1 p_s.length c1) ∧ lkp L10 1 = some (.func (.func g3) #[] cp4.toArray) ∧ lkp L10 7 = some (.int .i64 ((p_s.length : Int))) ∧ lkp L10 8 = some (.int .i64 ((k8 : Int))) ∧ RdS w11 (Iv 0 w.heap.size) (RF e_Str) 1 A1 p_s.length c1 p_s ∧ Ex w w11 ∧ loopM (B_g_slices_IndexFunc_string_0 p_s p_f) (p_s.length - k8) k8 () = loopM (B_g_slices_IndexFunc_string_0 p_s p_f) (p_s.length - 0) 0 ()) (p_s.length - 0) ?_ ?_
  · exact ⟨0, rfl, Nat.zero_le _, rfl, rfl, rfl, rfl, h1, (Ex.refl w), rfl⟩
  · rintro m12 L13 w14 ⟨k8, rfl, hk15, hl17, hl18, hl19, hl20, hf21, hf22, hI16⟩
    refine CW.sub (Sub.cons hl17 (Sub.cons hl18 (Sub.cons hl19 (Sub.cons hl20 (Sub.nil _))))) ?_
    have hf22z := Ex.size hf22
    have hbg23 := RdS.big hf21
    rcases Nat.lt_or_ge k8 p_s.length with hlt24 | hlt24
    · skip
      refine CW.seq ?_
      refine CW.region ?_
      refine SeqR.d1 rfl rfl rfl (yl_lss rfl rfl rfl ?_)
      refine SeqR.done ?_
      refine tn ?_
      refine CW.seq ?_
      refine CW.cond_t rfl (lt_t hlt24) ?_
      refine CW.skip ?_
      refine tn ?_
      refine CW.seq ?_
      refine CW.block ?_
      refine CW.seq ?_
      refine CW.region ?_
      refine SeqR.d1 rfl rfl rfl (yl_move rfl rfl ?_)
      refine SeqR.d1 rfl rfl rfl (yl_assign rfl rfl ?_)
      refine SeqR.done ?_
      refine tn ?_
      refine CW.seq ?_
      refine CW.region ?_
      refine SeqR.d1 rfl rfl rfl (yl_move rfl rfl ?_)
      refine SeqR.d1 rfl rfl rfl (yl_move rfl rfl ?_)
      refine SeqR.d1 rfl rfl rfl (yl_move rfl rfl ?_)
      obtain ⟨eb25, eo25, ec25, eA25, eS25, ebl25, el25, eR25, eC25⟩ := RdS.atD hf21 d_Str (i := k8) (by first | omega | assumption)
      obtain rfl := eR25
      have eC25 : Cells w14 eb25 (eo25 + k8 * 1) [.string (bs ((p_s.getD k8 d_Str)))] := eC25
      refine SeqR.d1 rfl rfl rfl (yl_indexAddrN Try.un73 Try.ty9 rfl rfl rfl eA25 (by first | omega | assumption | (simp only [IntKind.wrap_i64] at *; omega)) ?_)
      refine SeqR.d1 rfl rfl rfl (yl_load1 Try.ty9 rfl rfl (eC25 0 _ rfl) ?_)
      refine SeqR.d1 rfl rfl rfl (yl_callv hen5 rfl rfl (opvs_cons rfl opvs_nil) (Cal.mono (hfn6 w14 (p_s.getD k8 d_Str) hf22 (okL.getD o2 ok_d_Str _)) ?_))
      rintro v27 w26 ⟨rfl, hE28⟩
      have hE28z := Ex.size hE28
      refine SeqR.done ?_
      refine tn ?_
      refine bcase (p_f (p_s.getD k8 d_Str)) (fun hb29 => ?_) (fun hb29 => ?_)
      · skip
        refine CW.cond_t rfl hb29 ?_
        refine CW.seq ?_
        refine CW.region ?_
        refine SeqR.d1 rfl rfl rfl (yl_move rfl rfl ?_)
        refine SeqR.d1 rfl rfl rfl (yl_assign rfl rfl ?_)
        refine SeqR.done ?_
        refine tn ?_
        refine CW.ret ?_
        refine br ?_
        refine tr ?_
        refine tr ?_
        have hB31 : B_g_slices_IndexFunc_string_0 p_s p_f k8 () = .ret (k8 : Int) := by simp only [B_g_slices_IndexFunc_string_0, hb29, cond_true, cond_false, loopE_done, loopE_ret]
        have hL30 : loopM (B_g_slices_IndexFunc_string_0 p_s p_f) (p_s.length - 0) 0 () = .ret (k8 : Int) := hI16.symm.trans (loopM.ret hlt24 hB31)
        refine br ?_
        refine tr ?_
        refine rr rfl (.cons rfl .nil) ?_
        have hM32 : (g_slices_IndexFunc_string p_s p_f) = ((k8 : Int)) := by simp only [g_slices_IndexFunc_string, hb29, hL30, cond_true, cond_false, loopE_done, loopE_ret]
        rw [hM32]
        have q33 := Ex.trans hf22 hE28
        exact ⟨rfl, q33⟩
      · skip
        refine CW.cond_f rfl hb29 ?_
        refine CW.skip ?_
        refine bn ?_
        refine tn ?_
        refine CW.region ?_
        refine SeqR.d1 rfl rfl rfl (yl_inc rfl rfl rfl (by omega) ?_)
        refine SeqR.d1 rfl rfl rfl (yl_move rfl rfl ?_)
        refine SeqR.done ?_
        refine tn ?_
        have hB34 : B_g_slices_IndexFunc_string_0 p_s p_f k8 () = .cont () := by simp only [B_g_slices_IndexFunc_string_0, hb29, cond_true, cond_false, loopE_done, loopE_ret]
        have q35 := RdS.ex good_Str hf21 hE28
        have q36 := Ex.trans hf22 hE28
        exact ⟨p_s.length - (k8 + 1), by omega, k8 + 1, rfl, hlt24, rfl, rfl, rfl, rfl, q35, q36, (loopM.cont hlt24 hB34).symm.trans hI16⟩
    · skip
      refine CW.seq ?_
      refine CW.region ?_
      refine SeqR.d1 rfl rfl rfl (yl_lss rfl rfl rfl ?_)
      refine SeqR.done ?_
      refine tn ?_
      refine CW.seq ?_
      refine CW.cond_f rfl (lt_f hlt24) ?_
      refine CW.exit ?_
      refine tx ?_
      refine tx ?_
      have hL37 : loopM (B_g_slices_IndexFunc_string_0 p_s p_f) (p_s.length - 0) 0 () = .done () := hI16.symm.trans (loopM.stop hlt24)
      refine bx ?_
      refine tn ?_
      refine CW.seq ?_
      refine CW.region ?_
      refine SeqR.d1 rfl rfl rfl (yl_assign rfl rfl ?_)
      refine SeqR.done ?_
      refine tn ?_
      refine CW.ret ?_
      refine rr rfl (.cons rfl .nil) ?_
      have hM38 : (g_slices_IndexFunc_string p_s p_f) = (-1) := by simp only [g_slices_IndexFunc_string, hL37, cond_true, cond_false, loopE_done, loopE_ret]
      rw [hM38]
      exact ⟨rfl, hf22⟩
set_option maxRecDepth 100000 in
set_option maxHeartbeats 2000000 in
theorem c_g_slices_ContainsFunc_string {A1 : Option Addr} {c1 : Nat} {g3 : Nat} {cp4 : List Value} {w : World} (p_s : List Str) (p_f : Str → Bool) (h1 : RdS w (Iv 0 w.heap.size) (RF e_Str) 1 A1 p_s.length c1 p_s) (hen5 : Enters Try.prog g3) (hfn6 : ∀ (w1 : World) (y0 : Str), Ex w w1 → okS y0 → Cal Try.prog g3 (([.string (bs (y0))] : List Value) ++ cp4).toArray w1 fun v w2 => v = .bool (p_f y0) ∧ Ex w1 w2) (o2 : (okL okS) p_s) : Cal Try.prog 122 #[.slice A1 p_s.length c1, .func (.func g3) #[] cp4.toArray] w fun v w' => v = .bool ((g_slices_ContainsFunc_string p_s p_f)) ∧ Ex w w' := by
  have hol7 := o2.1
  refine Cal.of (vs := [.slice A1 p_s.length c1, .func (.func g3) #[] cp4.toArray]) Try.func122 rfl Try.ntmps122 rfl ?_
  refine CW.seq ?_
  refine CW.region ?_
  refine SeqR.d1 rfl rfl rfl (yl_assign rfl rfl ?_)
  refine SeqR.done ?_
  refine tn ?_
  refine CW.seq ?_
  refine CW.region ?_
  refine SeqR.d1 rfl rfl rfl (yl_move rfl rfl ?_)
  refine SeqR.d1 rfl rfl rfl (yl_move rfl rfl ?_)
  refine SeqR.d1 rfl rfl rfl (yl_call Try.en136 rfl (opvs_cons rfl (opvs_cons rfl opvs_nil)) (Cal.mono (c_g_slices_IndexFunc_string p_s p_f (RdS.up h1 good_Str) hen5 (fun w1 y0 => fun hE => hfn6 w1 y0 (Ex.trans (Ex.refl w) hE)) o2) ?_))
  rintro v9 w8 ⟨rfl, hE10⟩
  have hE10z := Ex.size hE10
  refine SeqR.d1 rfl rfl rfl (yl_geq rfl rfl rfl ?_)
  refine SeqR.d1 rfl rfl rfl (yl_assign rfl rfl ?_)
  refine SeqR.done ?_
  refine tn ?_
  refine CW.ret ?_
  refine rr rfl (.cons rfl .nil) ?_
  have hM11 : (g_slices_ContainsFunc_string p_s p_f) = (decide (0 ≤ (g_slices_IndexFunc_string p_s p_f))) := by simp only [g_slices_ContainsFunc_string, cond_true, cond_false, loopE_done, loopE_ret]
  rw [hM11]
  have q12 := Ex.trans (Ex.refl w) hE10
  exact ⟨rfl, q12⟩
set_option maxRecDepth 100000 in
set_option maxHeartbeats 2000000 in
theorem c_i_isLowerOrDigit {w : World} (p_b : Int) : Cal Try.prog 126 #[.int .u8 (p_b)] w fun v w' => v = .bool ((i_isLowerOrDigit p_b)) ∧ Ex w w' := by
  refine Cal.of (vs := [.int .u8 (p_b)]) Try.func126 rfl Try.ntmps126 rfl ?_
  refine CW.seq ?_
  refine CW.region ?_
  refine SeqR.d1 rfl rfl rfl (yl_assign rfl rfl ?_)
  refine SeqR.done ?_
  refine tn ?_
  refine CW.seq ?_
  refine CW.region ?_
  refine SeqR.d1 rfl rfl rfl (yl_move rfl rfl ?_)
  refine SeqR.d1 rfl rfl rfl (yl_geq rfl rfl rfl ?_)
  refine SeqR.d1 rfl rfl rfl (yl_move rfl rfl ?_)
  refine bcase (decide (97 ≤ p_b)) (fun hb1 => ?_) (fun hb1 => ?_)
  · have hb1p := dec_t hb1
    refine SeqR.y rfl rfl rfl rfl rfl hb1 (yl_move rfl rfl ?_)
    refine SeqR.y rfl rfl rfl rfl rfl hb1 (yl_leq rfl rfl rfl ?_)
    refine SeqR.d1 rfl rfl rfl (yl_pick_t rfl rfl hb1 rfl ?_)
    refine SeqR.d1 rfl rfl rfl (yl_move rfl rfl ?_)
    refine bcase (decide (p_b ≤ 122)) (fun hb2 => ?_) (fun hb2 => ?_)
    · have hb2p := dec_t hb2
      refine SeqR.z rfl rfl rfl rfl rfl hb2 ?_
      refine SeqR.z rfl rfl rfl rfl rfl hb2 ?_
      refine SeqR.z rfl rfl rfl rfl rfl hb2 ?_
      refine SeqR.q rfl rfl rfl rfl rfl ?_
      refine SeqR.q rfl rfl rfl rfl rfl ?_
      refine SeqR.z rfl rfl rfl rfl rfl hb2 ?_
      refine SeqR.d1 rfl rfl rfl (yl_pick_t rfl rfl hb2 rfl ?_)
      refine SeqR.d1 rfl rfl rfl (yl_assign rfl rfl ?_)
      refine SeqR.done ?_
      refine tn ?_
      refine CW.ret ?_
      refine rr rfl (.cons rfl .nil) ?_
      have hM3 : (i_isLowerOrDigit p_b) = (true) := by simp only [i_isLowerOrDigit, hb1, hb2, cond_true, cond_false, loopE_done, loopE_ret]
      rw [hM3]
      exact ⟨rfl, (Ex.refl w)⟩
    · have hb2p := dec_f hb2
      refine SeqR.y rfl rfl rfl rfl rfl hb2 (yl_move rfl rfl ?_)
      refine SeqR.y rfl rfl rfl rfl rfl hb2 (yl_geq rfl rfl rfl ?_)
      refine SeqR.y rfl rfl rfl rfl rfl hb2 (yl_move rfl rfl ?_)
      refine bcase (decide (48 ≤ p_b)) (fun hb4 => ?_) (fun hb4 => ?_)
      · have hb4p := dec_t hb4
        refine SeqR.y rfl rfl rfl rfl rfl hb4 (yl_move rfl rfl ?_)
        refine SeqR.y rfl rfl rfl rfl rfl hb4 (yl_leq rfl rfl rfl ?_)
        refine SeqR.y rfl rfl rfl rfl rfl hb2 (yl_pick_t rfl rfl hb4 rfl ?_)
        refine SeqR.d1 rfl rfl rfl (yl_pick_f rfl rfl hb2 rfl ?_)
        refine SeqR.d1 rfl rfl rfl (yl_assign rfl rfl ?_)
        refine SeqR.done ?_
        refine tn ?_
        refine CW.ret ?_
        refine rr rfl (.cons rfl .nil) ?_
        have hM5 : (i_isLowerOrDigit p_b) = (decide (p_b ≤ 57)) := by simp only [i_isLowerOrDigit, hb1, hb2, hb4, cond_true, cond_false, loopE_done, loopE_ret]
        rw [hM5]
        exact ⟨rfl, (Ex.refl w)⟩
      · have hb4p := dec_f hb4
        refine SeqR.z rfl rfl rfl rfl rfl hb4 ?_
        refine SeqR.z rfl rfl rfl rfl rfl hb4 ?_
        refine SeqR.y rfl rfl rfl rfl rfl hb2 (yl_pick_f rfl rfl hb4 rfl ?_)
        refine SeqR.d1 rfl rfl rfl (yl_pick_f rfl rfl hb2 rfl ?_)
        refine SeqR.d1 rfl rfl rfl (yl_assign rfl rfl ?_)
        refine SeqR.done ?_
        refine tn ?_
        refine CW.ret ?_
        refine rr rfl (.cons rfl .nil) ?_
        have hM6 : (i_isLowerOrDigit p_b) = (false) := by simp only [i_isLowerOrDigit, hb1, hb2, hb4, cond_true, cond_false, loopE_done, loopE_ret]
        rw [hM6]
        exact ⟨rfl, (Ex.refl w)⟩
  · have hb1p := dec_f hb1
    refine SeqR.z rfl rfl rfl rfl rfl hb1 ?_
    refine SeqR.z rfl rfl rfl rfl rfl hb1 ?_
    refine SeqR.d1 rfl rfl rfl (yl_pick_f rfl rfl hb1 rfl ?_)
    refine SeqR.d1 rfl rfl rfl (yl_move rfl rfl ?_)
    refine SeqR.y rfl rfl rfl rfl rfl rfl (yl_move rfl rfl ?_)
    refine SeqR.y rfl rfl rfl rfl rfl rfl (yl_geq rfl rfl rfl ?_)
    refine SeqR.y rfl rfl rfl rfl rfl rfl (yl_move rfl rfl ?_)
    refine bcase (decide (48 ≤ p_b)) (fun hb7 => ?_) (fun hb7 => ?_)
    · have hb7p := dec_t hb7
      refine SeqR.y rfl rfl rfl rfl rfl hb7 (yl_move rfl rfl ?_)
      refine SeqR.y rfl rfl rfl rfl rfl hb7 (yl_leq rfl rfl rfl ?_)
      refine SeqR.y rfl rfl rfl rfl rfl rfl (yl_pick_t rfl rfl hb7 rfl ?_)
      refine SeqR.d1 rfl rfl rfl (yl_pick_f rfl rfl rfl rfl ?_)
      refine SeqR.d1 rfl rfl rfl (yl_assign rfl rfl ?_)
      refine SeqR.done ?_
      refine tn ?_
      refine CW.ret ?_
      refine rr rfl (.cons rfl .nil) ?_
      have hM8 : (i_isLowerOrDigit p_b) = (decide (p_b ≤ 57)) := by simp only [i_isLowerOrDigit, hb1, hb7, cond_true, cond_false, loopE_done, loopE_ret]
      rw [hM8]
      exact ⟨rfl, (Ex.refl w)⟩
    · have hb7p := dec_f hb7
      refine SeqR.z rfl rfl rfl rfl rfl hb7 ?_
      refine SeqR.z rfl rfl rfl rfl rfl hb7 ?_
      refine SeqR.y rfl rfl rfl rfl rfl rfl (yl_pick_f rfl rfl hb7 rfl ?_)
      refine SeqR.d1 rfl rfl rfl (yl_pick_f rfl rfl rfl rfl ?_)
      refine SeqR.d1 rfl rfl rfl (yl_assign rfl rfl ?_)
      refine SeqR.done ?_
      refine tn ?_
      refine CW.ret ?_
      refine rr rfl (.cons rfl .nil) ?_
      have hM9 : (i_isLowerOrDigit p_b) = (false) := by simp only [i_isLowerOrDigit, hb1, hb7, cond_true, cond_false, loopE_done, loopE_ret]
      rw [hM9]
      exact ⟨rfl, (Ex.refl w)⟩
set_option maxRecDepth 100000 in
set_option maxHeartbeats 2000000 in
theorem c_g_internal_stringslite_IndexByte {w : World} (p_s : Str) (p_c : Int) (o1 : okS p_s) : Cal Try.prog 137 #[.string (bs (p_s)), .int .u8 (p_c)] w fun v w' => v = .int .i64 ((g_internal_stringslite_IndexByte p_s p_c)) ∧ Ex w w' := by
  have hol2 : p_s.length ≤ 1073741824 := o1
  refine Cal.of (vs := [.string (bs (p_s)), .int .u8 (p_c)]) Try.func137 rfl Try.ntmps137 rfl ?_
  refine CW.seq ?_
  refine CW.region ?_
  refine SeqR.d1 rfl rfl rfl (yl_assign rfl rfl ?_)
  refine SeqR.done ?_
  refine tn ?_
  refine CW.seq ?_
  refine CW.region ?_
  refine SeqR.d1 rfl rfl rfl (yl_move rfl rfl ?_)
  refine SeqR.d1 rfl rfl rfl (yl_move rfl rfl ?_)
  refine SeqR.d1 rfl rfl rfl (yl_idxB (s := p_s) (c := p_c) Try.ex140 rfl (opvs_cons rfl (opvs_cons rfl opvs_nil)) ?_)
  refine SeqR.d1 rfl rfl rfl (yl_assign rfl rfl ?_)
  refine SeqR.done ?_
  refine tn ?_
  refine CW.ret ?_
  refine rr rfl (.cons rfl .nil) ?_
  have hM3 : (g_internal_stringslite_IndexByte p_s p_c) = (idxB p_s p_c) := by simp only [g_internal_stringslite_IndexByte, cond_true, cond_false, loopE_done, loopE_ret]
  rw [hM3]
  exact ⟨rfl, (Ex.refl w)⟩
set_option maxRecDepth 100000 in
set_option maxHeartbeats 2000000 in
theorem c_g_strings_IndexByte {w : World} (p_s : Str) (p_c : Int) (o1 : okS p_s) : Cal Try.prog 127 #[.string (bs (p_s)), .int .u8 (p_c)] w fun v w' => v = .int .i64 ((g_strings_IndexByte p_s p_c)) ∧ Ex w w' := by
  have hol2 : p_s.length ≤ 1073741824 := o1
  refine Cal.of (vs := [.string (bs (p_s)), .int .u8 (p_c)]) Try.func127 rfl Try.ntmps127 rfl ?_
  refine CW.seq ?_
  refine CW.region ?_
  refine SeqR.d1 rfl rfl rfl (yl_assign rfl rfl ?_)
  refine SeqR.done ?_
  refine tn ?_
  refine CW.seq ?_
  refine CW.region ?_
  refine SeqR.d1 rfl rfl rfl (yl_move rfl rfl ?_)
  refine SeqR.d1 rfl rfl rfl (yl_move rfl rfl ?_)
  refine SeqR.d1 rfl rfl rfl (yl_call Try.en137 rfl (opvs_cons rfl (opvs_cons rfl opvs_nil)) (Cal.mono (c_g_internal_stringslite_IndexByte p_s p_c o1) ?_))
  rintro v4 w3 ⟨rfl, hE5⟩
  have hE5z := Ex.size hE5
  refine SeqR.d1 rfl rfl rfl (yl_assign rfl rfl ?_)
  refine SeqR.done ?_
  refine tn ?_
  refine CW.ret ?_
  refine rr rfl (.cons rfl .nil) ?_
  have hM6 : (g_strings_IndexByte p_s p_c) = ((g_internal_stringslite_IndexByte p_s p_c)) := by simp only [g_strings_IndexByte, cond_true, cond_false, loopE_done, loopE_ret]
  rw [hM6]
  have q7 := Ex.trans (Ex.refl w) hE5
  exact ⟨rfl, q7⟩
set_option maxRecDepth 100000 in
set_option maxHeartbeats 2000000 in
theorem c_i_hasBytes {w : World} (p_s : Str) (p_others : Str) (o1 : okS p_s) (o2 : okS p_others) : Cal Try.prog 100 #[.string (bs (p_s)), .string (bs (p_others))] w fun v w' => v = .bool ((i_hasBytes p_s p_others)) ∧ Ex w w' := by
  have hol3 : p_s.length ≤ 1073741824 := o1
  have hol4 : p_others.length ≤ 1073741824 := o2
  refine Cal.of (vs := [.string (bs (p_s)), .string (bs (p_others))]) Try.func100 rfl Try.ntmps100 rfl ?_
  refine CW.seq ?_
  refine CW.region ?_
  refine SeqR.d1 rfl rfl rfl (yl_assign rfl rfl ?_)
  refine SeqR.done ?_
  refine tn ?_
  refine CW.seq ?_
  refine CW.seq ?_
  refine CW.region ?_
  refine SeqR.d1 rfl rfl rfl (yl_move rfl rfl ?_)
  refine SeqR.d1 rfl rfl rfl (yl_slen Try.un9 (a := p_s) rfl rfl ?_)
  refine SeqR.d1 rfl rfl rfl (yl_move rfl rfl ?_)
  refine SeqR.done ?_
  refine tn ?_
  refine CW.block ?_
  refine CW.loop (fun m6 L7 w8 => ∃ (k5 : Nat), m6 = p_s.length - k5 ∧ k5 ≤ p_s.length ∧ lkp L7 0 = some (.string (bs (p_s))) ∧ lkp L7 1 = some (.string (bs (p_others))) ∧ lkp L7 7 = some (.int .i64 ((p_s.length : Int))) ∧ lkp L7 8 = some (.int .i64 ((k5 : Int))) ∧ Ex w w8 ∧ loopM (B_i_hasBytes_0 p_s p_others) (p_s.length - k5) k5 () = loopM (B_i_hasBytes_0 p_s p_others) (p_s.length - 0) 0 ()) (p_s.length - 0) ?_ ?_
  · exact ⟨0, rfl, Nat.zero_le _, rfl, rfl, rfl, rfl, (Ex.refl w), rfl⟩
  · rintro m9 L10 w11 ⟨k5, rfl, hk12, hl14, hl15, hl16, hl17, hf18, hI13⟩
    refine CW.sub (Sub.cons hl14 (Sub.cons hl15 (Sub.cons hl16 (Sub.cons hl17 (Sub.nil _))))) ?_
    have hf18z := Ex.size hf18
    have hbg19 : p_s.length ≤ 1073741824 := o1
    rcases Nat.lt_or_ge k5 p_s.length with hlt20 | hlt20
    · skip
      refine CW.seq ?_
      refine CW.region ?_
      refine SeqR.d1 rfl rfl rfl (yl_lss rfl rfl rfl ?_)
      refine SeqR.done ?_
      refine tn ?_
      refine CW.seq ?_
      refine CW.cond_t rfl (lt_t hlt20) ?_
      refine CW.skip ?_
      refine tn ?_
      refine CW.seq ?_
      refine CW.block ?_
      refine CW.seq ?_
      refine CW.region ?_
      refine SeqR.d1 rfl rfl rfl (yl_move rfl rfl ?_)
      refine SeqR.d1 rfl rfl rfl (yl_assign rfl rfl ?_)
      refine SeqR.done ?_
      refine tn ?_
      refine CW.seq ?_
      refine CW.region ?_
      refine SeqR.d1 rfl rfl rfl (yl_move rfl rfl ?_)
      refine SeqR.d1 rfl rfl rfl (yl_move rfl rfl ?_)
      refine SeqR.d1 rfl rfl rfl (yl_sindexN Try.un9 (a := p_s) rfl rfl rfl (by first | omega | assumption | (simp only [IntKind.wrap_i64] at *; omega)) ?_)
      refine SeqR.d1 rfl rfl rfl (yl_call Try.en126 rfl (opvs_cons rfl opvs_nil) (Cal.mono (c_i_isLowerOrDigit ((p_s.getD k5 0).toNat : Int)) ?_))
      rintro v22 w21 ⟨rfl, hE23⟩
      have hE23z := Ex.size hE23
      refine SeqR.d1 rfl rfl rfl (yl_not rfl rfl ?_)
      refine SeqR.d1 rfl rfl rfl (yl_move rfl rfl ?_)
      refine bcase (i_isLowerOrDigit ((p_s.getD k5 0).toNat : Int)) (fun hb24 => ?_) (fun hb24 => ?_)
      · skip
        refine SeqR.z rfl rfl rfl rfl rfl (not_t hb24) ?_
        refine SeqR.z rfl rfl rfl rfl rfl (not_t hb24) ?_
        refine SeqR.z rfl rfl rfl rfl rfl (not_t hb24) ?_
        refine SeqR.z rfl rfl rfl rfl rfl (not_t hb24) ?_
        refine SeqR.z rfl rfl rfl rfl rfl (not_t hb24) ?_
        refine SeqR.z rfl rfl rfl rfl rfl (not_t hb24) ?_
        refine SeqR.d1 rfl rfl rfl (yl_pick_f rfl rfl (not_t hb24) rfl ?_)
        refine SeqR.done ?_
        refine tn ?_
        refine CW.cond_f rfl rfl ?_
        refine CW.skip ?_
        refine bn ?_
        refine tn ?_
        refine CW.region ?_
        refine SeqR.d1 rfl rfl rfl (yl_inc rfl rfl rfl (by omega) ?_)
        refine SeqR.d1 rfl rfl rfl (yl_move rfl rfl ?_)
        refine SeqR.done ?_
        refine tn ?_
        have hB25 : B_i_hasBytes_0 p_s p_others k5 () = .cont () := by simp only [B_i_hasBytes_0, hb24, cond_true, cond_false, loopE_done, loopE_ret]
        have q26 := Ex.trans hf18 hE23
        exact ⟨p_s.length - (k5 + 1), by omega, k5 + 1, rfl, hlt20, rfl, rfl, rfl, rfl, q26, (loopM.cont hlt20 hB25).symm.trans hI13⟩
      · skip
        refine SeqR.y rfl rfl rfl rfl rfl (not_f hb24) (yl_move rfl rfl ?_)
        refine SeqR.y rfl rfl rfl rfl rfl (not_f hb24) (yl_move rfl rfl ?_)
        refine SeqR.y rfl rfl rfl rfl rfl (not_f hb24) (yl_move rfl rfl ?_)
        refine SeqR.y rfl rfl rfl rfl rfl (not_f hb24) (yl_sindexN Try.un9 (a := p_s) rfl rfl rfl (by first | omega | assumption | (simp only [IntKind.wrap_i64] at *; omega)) ?_)
        refine SeqR.y rfl rfl rfl rfl rfl (not_f hb24) (yl_call Try.en127 rfl (opvs_cons rfl (opvs_cons rfl opvs_nil)) (Cal.mono (c_g_strings_IndexByte p_others ((p_s.getD k5 0).toNat : Int) o2) ?_))
        rintro v28 w27 ⟨rfl, hE29⟩
        have hE29z := Ex.size hE29
        refine SeqR.y rfl rfl rfl rfl rfl (not_f hb24) (yl_lss rfl rfl rfl ?_)
        refine SeqR.d1 rfl rfl rfl (yl_pick_t rfl rfl (not_f hb24) rfl ?_)
        refine SeqR.done ?_
        refine tn ?_
        refine bcase (decide ((g_strings_IndexByte p_others ((p_s.getD k5 0).toNat : Int)) < 0)) (fun hb30 => ?_) (fun hb30 => ?_)
        · have hb30p := dec_t hb30
          refine CW.cond_t rfl hb30 ?_
          refine CW.seq ?_
          refine CW.region ?_
          refine SeqR.d1 rfl rfl rfl (yl_assign rfl rfl ?_)
          refine SeqR.done ?_
          refine tn ?_
          refine CW.ret ?_
          refine br ?_
          refine tr ?_
          refine tr ?_
          have hB32 : B_i_hasBytes_0 p_s p_others k5 () = .ret false := by simp only [B_i_hasBytes_0, hb24, hb30, cond_true, cond_false, loopE_done, loopE_ret]
          have hL31 : loopM (B_i_hasBytes_0 p_s p_others) (p_s.length - 0) 0 () = .ret false := hI13.symm.trans (loopM.ret hlt20 hB32)
          refine br ?_
          refine tr ?_
          refine rr rfl (.cons rfl .nil) ?_
          have hM33 : (i_hasBytes p_s p_others) = (false) := by simp only [i_hasBytes, hb24, hb30, hL31, cond_true, cond_false, loopE_done, loopE_ret]
          rw [hM33]
          have q34 := Ex.trans hf18 hE23
          have q35 := Ex.trans q34 hE29
          exact ⟨rfl, q35⟩
        · have hb30p := dec_f hb30
          refine CW.cond_f rfl hb30 ?_
          refine CW.skip ?_
          refine bn ?_
          refine tn ?_
          refine CW.region ?_
          refine SeqR.d1 rfl rfl rfl (yl_inc rfl rfl rfl (by omega) ?_)
          refine SeqR.d1 rfl rfl rfl (yl_move rfl rfl ?_)
          refine SeqR.done ?_
          refine tn ?_
          have hB36 : B_i_hasBytes_0 p_s p_others k5 () = .cont () := by simp only [B_i_hasBytes_0, hb24, hb30, cond_true, cond_false, loopE_done, loopE_ret]
          have q37 := Ex.trans hf18 hE23
          have q38 := Ex.trans q37 hE29
          exact ⟨p_s.length - (k5 + 1), by omega, k5 + 1, rfl, hlt20, rfl, rfl, rfl, rfl, q38, (loopM.cont hlt20 hB36).symm.trans hI13⟩
    · skip
      refine CW.seq ?_
      refine CW.region ?_
      refine SeqR.d1 rfl rfl rfl (yl_lss rfl rfl rfl ?_)
      refine SeqR.done ?_
      refine tn ?_
      refine CW.seq ?_
      refine CW.cond_f rfl (lt_f hlt20) ?_
      refine CW.exit ?_
      refine tx ?_
      refine tx ?_
      have hL39 : loopM (B_i_hasBytes_0 p_s p_others) (p_s.length - 0) 0 () = .done () := hI13.symm.trans (loopM.stop hlt20)
      refine bx ?_
      refine tn ?_
      refine CW.seq ?_
      refine CW.region ?_
      refine SeqR.d1 rfl rfl rfl (yl_assign rfl rfl ?_)
      refine SeqR.done ?_
      refine tn ?_
      refine CW.ret ?_
      refine rr rfl (.cons rfl .nil) ?_
      have hM40 : (i_hasBytes p_s p_others) = (true) := by simp only [i_hasBytes, hL39, cond_true, cond_false, loopE_done, loopE_ret]
      rw [hM40]
      exact ⟨rfl, hf18⟩
set_option maxRecDepth 100000 in
set_option maxHeartbeats 2000000 in
theorem c_i_isField {w : World} (p_s : Str) (o1 : okS p_s) : Cal Try.prog 124 #[.string (bs (p_s))] w fun v w' => v = .bool ((i_isField p_s)) ∧ Ex w w' := by
  have hol2 : p_s.length ≤ 1073741824 := o1
  refine Cal.of (vs := [.string (bs (p_s))]) Try.func124 rfl Try.ntmps124 rfl ?_
  refine CW.seq ?_
  refine CW.region ?_
  refine SeqR.d1 rfl rfl rfl (yl_assign rfl rfl ?_)
  refine SeqR.done ?_
  refine tn ?_
  refine CW.seq ?_
  refine CW.region ?_
  refine SeqR.d1 rfl rfl rfl (yl_move rfl rfl ?_)
  refine SeqR.d1 rfl rfl rfl (yl_slen Try.un9 (a := p_s) rfl rfl ?_)
  refine SeqR.d1 rfl rfl rfl (yl_call Try.en56 rfl (opvs_cons rfl (opvs_cons rfl (opvs_cons rfl opvs_nil))) (Cal.mono (c_i_within (p_s.length : Int) 1 3) ?_))
  rintro v4 w3 ⟨rfl, hE5⟩
  have hE5z := Ex.size hE5
  refine SeqR.d1 rfl rfl rfl (yl_move rfl rfl ?_)
  refine bcase (i_within (p_s.length : Int) 1 3) (fun hb6 => ?_) (fun hb6 => ?_)
  · have hb6p := f_within hb6
    refine SeqR.y rfl rfl rfl rfl rfl hb6 (yl_move rfl rfl ?_)
    refine SeqR.y rfl rfl rfl rfl rfl hb6 (yl_call Try.en100 rfl (opvs_cons rfl (opvs_cons rfl opvs_nil)) (Cal.mono (c_i_hasBytes p_s ([] : Str) o1 (by unfold okS; decide)) ?_))
    rintro v8 w7 ⟨rfl, hE9⟩
    have hE9z := Ex.size hE9
    refine SeqR.d1 rfl rfl rfl (yl_pick_t rfl rfl hb6 rfl ?_)
    refine SeqR.d1 rfl rfl rfl (yl_assign rfl rfl ?_)
    refine SeqR.done ?_
    refine tn ?_
    refine CW.ret ?_
    refine rr rfl (.cons rfl .nil) ?_
    have hM10 : (i_isField p_s) = ((i_hasBytes p_s ([] : Str))) := by simp only [i_isField, hb6, cond_true, cond_false, loopE_done, loopE_ret]
    rw [hM10]
    have q11 := Ex.trans (Ex.refl w) hE5
    have q12 := Ex.trans q11 hE9
    exact ⟨rfl, q12⟩
  · skip
    refine SeqR.z rfl rfl rfl rfl rfl hb6 ?_
    refine SeqR.z rfl rfl rfl rfl rfl hb6 ?_
    refine SeqR.d1 rfl rfl rfl (yl_pick_f rfl rfl hb6 rfl ?_)
    refine SeqR.d1 rfl rfl rfl (yl_assign rfl rfl ?_)
    refine SeqR.done ?_
    refine tn ?_
    refine CW.ret ?_
    refine rr rfl (.cons rfl .nil) ?_
    have hM13 : (i_isField p_s) = (false) := by simp only [i_isField, hb6, cond_true, cond_false, loopE_done, loopE_ret]
    rw [hM13]
    have q14 := Ex.trans (Ex.refl w) hE5
    exact ⟨rfl, q14⟩
set_option maxRecDepth 100000 in
set_option maxHeartbeats 2000000 in
theorem c_i_Table_isRow_c1 {w : World} (p_s : Str) (o1 : okS p_s) : Cal Try.prog 123 #[.string (bs (p_s))] w fun v w' => v = .bool ((i_Table_isRow_c1 p_s)) ∧ Ex w w' := by
  have hol2 : p_s.length ≤ 1073741824 := o1
  refine Cal.of (vs := [.string (bs (p_s))]) Try.func123 rfl Try.ntmps123 rfl ?_
  refine CW.seq ?_
  refine CW.region ?_
  refine SeqR.d1 rfl rfl rfl (yl_assign rfl rfl ?_)
  refine SeqR.done ?_
  refine tn ?_
  refine CW.seq ?_
  refine CW.region ?_
  refine SeqR.d1 rfl rfl rfl (yl_move rfl rfl ?_)
  refine SeqR.d1 rfl rfl rfl (yl_call Try.en124 rfl (opvs_cons rfl opvs_nil) (Cal.mono (c_i_isField p_s o1) ?_))
  rintro v4 w3 ⟨rfl, hE5⟩
  have hE5z := Ex.size hE5
  refine SeqR.d1 rfl rfl rfl (yl_not rfl rfl ?_)
  refine SeqR.d1 rfl rfl rfl (yl_assign rfl rfl ?_)
  refine SeqR.done ?_
  refine tn ?_
  refine CW.ret ?_
  refine rr rfl (.cons rfl .nil) ?_
  have hM6 : (i_Table_isRow_c1 p_s) = (!(i_isField p_s)) := by simp only [i_Table_isRow_c1, cond_true, cond_false, loopE_done, loopE_ret]
  rw [hM6]
  have q7 := Ex.trans (Ex.refl w) hE5
  exact ⟨rfl, q7⟩
set_option maxRecDepth 100000 in
set_option maxHeartbeats 2000000 in
theorem c_i_Table_isRow {A1 : Option Addr} {c1 : Nat} {A2 : Option Addr} {c2 : Nat} {A4 : Option Addr} {c4 : Nat} {w : World} (p_t : DTable) (p_r : DRow) (h1 : RdS w (Iv 0 w.heap.size) (RF e_Str) 1 A1 p_t.Cols.length c1 p_t.Cols) (h2 : RdS w (Iv 0 w.heap.size) (RF e_Idx) 3 A2 p_t.Idxs.length c2 p_t.Idxs) (h4 : RdS w (Iv 0 w.heap.size) (RF e_Str) 1 A4 p_r.Vals.length c4 p_r.Vals) (o3 : ok_Table p_t) (o5 : ok_Row p_r) : Cal Try.prog 96 #[.agg #[.string (bs (p_t.Name)), .slice A1 p_t.Cols.length c1, .slice A2 p_t.Idxs.length c2], .agg #[.slice A4 p_r.Vals.length c4]] w fun v w' => v = .bool ((i_Table_isRow p_t p_r)) ∧ Ex w w' := by
  have hol6 : p_t.Name.length ≤ 1073741824 := o3.1
  have hol7 := o3.2.1.1
  have hol8 := o3.2.2.1
  have hol9 := o5.1
  refine Cal.of (vs := [.agg #[.string (bs (p_t.Name)), .slice A1 p_t.Cols.length c1, .slice A2 p_t.Idxs.length c2], .agg #[.slice A4 p_r.Vals.length c4]]) Try.func96 rfl Try.ntmps96 rfl ?_
  refine CW.seq ?_
  refine CW.region ?_
  refine SeqR.d1 rfl rfl rfl (yl_box (cs := [.string (bs (p_t.Name)), .slice A1 p_t.Cols.length c1, .slice A2 p_t.Idxs.length c2]) rfl rfl rfl ?_)
  intro b10 w11 hs12 hz13 hB14 hE15
  refine SeqR.d1 rfl rfl rfl (yl_box (cs := [.slice A4 p_r.Vals.length c4]) rfl rfl rfl ?_)
  intro b16 w17 hs18 hz19 hB20 hE21
  refine SeqR.d1 rfl rfl rfl (yl_assign rfl rfl ?_)
  refine SeqR.done ?_
  refine tn ?_
  refine CW.seq ?_
  refine CW.region ?_
  refine SeqR.d1 rfl rfl rfl (yl_fieldAddr Try.fd86_0 rfl rfl ?_)
  refine SeqR.d1 rfl rfl rfl (yl_load1 Try.ty73 rfl rfl ((hB20.cell 0).trans rfl) ?_)
  refine SeqR.d1 rfl rfl rfl (yl_len Try.un73 rfl rfl ?_)
  refine SeqR.d1 rfl rfl rfl (yl_fieldAddr Try.fd84_1 rfl rfl ?_)
  have q22 := Box.ex hB14 hE21
  refine SeqR.d1 rfl rfl rfl (yl_load1 Try.ty73 rfl rfl ((q22.cell 1).trans rfl) ?_)
  refine SeqR.d1 rfl rfl rfl (yl_len Try.un73 rfl rfl ?_)
  refine SeqR.d1 rfl rfl rfl (yl_eql rfl rfl rfl ?_)
  refine SeqR.d1 rfl rfl rfl (yl_move rfl rfl ?_)
  refine bcase (decide ((p_r.Vals.length : Int) = (p_t.Cols.length : Int))) (fun hb23 => ?_) (fun hb23 => ?_)
  · have hb23p := dec_t hb23
    refine SeqR.y rfl rfl rfl rfl rfl hb23 (yl_fieldAddr Try.fd86_0 rfl rfl ?_)
    refine SeqR.y rfl rfl rfl rfl rfl hb23 (yl_load1 Try.ty73 rfl rfl ((hB20.cell 0).trans rfl) ?_)
    have q24 := RdS.ex good_Str h4 hE15
    have q25 := RdS.ex good_Str q24 hE21
    refine SeqR.y rfl rfl rfl rfl rfl hb23 (yl_call Try.en122 rfl (opvs_cons rfl (opvs_cons rfl opvs_nil)) (Cal.mono (c_g_slices_ContainsFunc_string p_r.Vals (fun y0 => i_Table_isRow_c1 y0) (RdS.up q25 good_Str) Try.en123 (fun _ y0 => fun hE ov0 => c_i_Table_isRow_c1 y0 ov0) o5) ?_))
    rintro v27 w26 ⟨rfl, hE28⟩
    have hE28z := Ex.size hE28
    refine SeqR.y rfl rfl rfl rfl rfl hb23 (yl_not rfl rfl ?_)
    refine SeqR.d1 rfl rfl rfl (yl_pick_t rfl rfl hb23 rfl ?_)
    refine SeqR.d1 rfl rfl rfl (yl_assign rfl rfl ?_)
    refine SeqR.done ?_
    refine tn ?_
    refine CW.ret ?_
    refine rr rfl (.cons rfl .nil) ?_
    have hM29 : (i_Table_isRow p_t p_r) = (!(g_slices_ContainsFunc_string p_r.Vals (fun y0 => i_Table_isRow_c1 y0))) := by simp only [i_Table_isRow, hb23, cond_true, cond_false, loopE_done, loopE_ret]
    rw [hM29]
    have q30 := Ex.trans (Ex.refl w) hE15
    have q31 := Ex.trans q30 hE21
    have q32 := Ex.trans q31 hE28
    exact ⟨rfl, q32⟩
  · have hb23p := dec_f hb23
    refine SeqR.z rfl rfl rfl rfl rfl hb23 ?_
    refine SeqR.z rfl rfl rfl rfl rfl hb23 ?_
    refine SeqR.z rfl rfl rfl rfl rfl hb23 ?_
    refine SeqR.z rfl rfl rfl rfl rfl hb23 ?_
    refine SeqR.d1 rfl rfl rfl (yl_pick_f rfl rfl hb23 rfl ?_)
    refine SeqR.d1 rfl rfl rfl (yl_assign rfl rfl ?_)
    refine SeqR.done ?_
    refine tn ?_
    refine CW.ret ?_
    refine rr rfl (.cons rfl .nil) ?_
    have hM33 : (i_Table_isRow p_t p_r) = (false) := by simp only [i_Table_isRow, hb23, cond_true, cond_false, loopE_done, loopE_ret]
    rw [hM33]
    have q34 := Ex.trans (Ex.refl w) hE15
    have q35 := Ex.trans q34 hE21
    exact ⟨rfl, q35⟩
set_option maxRecDepth 100000 in
set_option maxHeartbeats 2000000 in
theorem c_i_GoodRow {A1 : Option Addr} {c1 : Nat} {A2 : Option Addr} {c2 : Nat} {A4 : Option Addr} {c4 : Nat} {w : World} (p_t : DTable) (p_r : DRow) (h1 : RdS w (Iv 0 w.heap.size) (RF e_Str) 1 A1 p_t.Cols.length c1 p_t.Cols) (h2 : RdS w (Iv 0 w.heap.size) (RF e_Idx) 3 A2 p_t.Idxs.length c2 p_t.Idxs) (h4 : RdS w (Iv 0 w.heap.size) (RF e_Str) 1 A4 p_r.Vals.length c4 p_r.Vals) (o3 : ok_Table p_t) (o5 : ok_Row p_r) : Cal Try.prog 47 #[.agg #[.string (bs (p_t.Name)), .slice A1 p_t.Cols.length c1, .slice A2 p_t.Idxs.length c2], .agg #[.slice A4 p_r.Vals.length c4]] w fun v w' => v = .bool ((i_GoodRow p_t p_r)) ∧ Ex w w' := by
  have hol6 : p_t.Name.length ≤ 1073741824 := o3.1
  have hol7 := o3.2.1.1
  have hol8 := o3.2.2.1
  have hol9 := o5.1
  refine Cal.of (vs := [.agg #[.string (bs (p_t.Name)), .slice A1 p_t.Cols.length c1, .slice A2 p_t.Idxs.length c2], .agg #[.slice A4 p_r.Vals.length c4]]) Try.func47 rfl Try.ntmps47 rfl ?_
  refine CW.seq ?_
  refine CW.region ?_
  refine SeqR.d1 rfl rfl rfl (yl_box (cs := [.string (bs (p_t.Name)), .slice A1 p_t.Cols.length c1, .slice A2 p_t.Idxs.length c2]) rfl rfl rfl ?_)
  intro b10 w11 hs12 hz13 hB14 hE15
  refine SeqR.d1 rfl rfl rfl (yl_box (cs := [.slice A4 p_r.Vals.length c4]) rfl rfl rfl ?_)
  intro b16 w17 hs18 hz19 hB20 hE21
  refine SeqR.d1 rfl rfl rfl (yl_assign rfl rfl ?_)
  refine SeqR.done ?_
  refine tn ?_
  refine CW.seq ?_
  refine CW.region ?_
  have q22 := Box.ex hB14 hE21
  refine SeqR.d1 rfl rfl rfl (yl_loadN (cs := [.string (bs (p_t.Name)), .slice A1 p_t.Cols.length c1, .slice A2 p_t.Idxs.length c2]) Try.ty84 rfl rfl (q22.cells (n := 3) rfl) rfl ?_)
  have q23 := RdS.ex good_Str h1 hE15
  have q24 := RdS.ex good_Str q23 hE21
  have q25 := RdS.ex good_Idx h2 hE15
  have q26 := RdS.ex good_Idx q25 hE21
  refine SeqR.d1 rfl rfl rfl (yl_call Try.en95 rfl (opvs_cons rfl opvs_nil) (Cal.mono (c_i_GoodTable p_t (RdS.up q24 good_Str) (RdS.up q26 good_Idx) o3) ?_))
  rintro v28 w27 ⟨rfl, hE29⟩
  have hE29z := Ex.size hE29
  refine SeqR.d1 rfl rfl rfl (yl_move rfl rfl ?_)
  refine bcase (i_GoodTable p_t) (fun hb30 => ?_) (fun hb30 => ?_)
  · skip
    have q31 := Box.ex q22 hE29
    refine SeqR.y rfl rfl rfl rfl rfl hb30 (yl_loadN (cs := [.string (bs (p_t.Name)), .slice A1 p_t.Cols.length c1, .slice A2 p_t.Idxs.length c2]) Try.ty84 rfl rfl (q31.cells (n := 3) rfl) rfl ?_)
    have q32 := Box.ex hB20 hE29
    refine SeqR.y rfl rfl rfl rfl rfl hb30 (yl_loadN (cs := [.slice A4 p_r.Vals.length c4]) Try.ty86 rfl rfl (q32.cells (n := 1) rfl) rfl ?_)
    have q33 := RdS.ex good_Str q24 hE29
    have q34 := RdS.ex good_Idx q26 hE29
    have q35 := RdS.ex good_Str h4 hE15
    have q36 := RdS.ex good_Str q35 hE21
    have q37 := RdS.ex good_Str q36 hE29
    refine SeqR.y rfl rfl rfl rfl rfl hb30 (yl_call Try.en96 rfl (opvs_cons rfl (opvs_cons rfl opvs_nil)) (Cal.mono (c_i_Table_isRow p_t p_r (RdS.up q33 good_Str) (RdS.up q34 good_Idx) (RdS.up q37 good_Str) o3 o5) ?_))
    rintro v39 w38 ⟨rfl, hE40⟩
    have hE40z := Ex.size hE40
    refine SeqR.d1 rfl rfl rfl (yl_pick_t rfl rfl hb30 rfl ?_)
    refine SeqR.d1 rfl rfl rfl (yl_assign rfl rfl ?_)
    refine SeqR.done ?_
    refine tn ?_
    refine CW.ret ?_
    refine rr rfl (.cons rfl .nil) ?_
    have hM41 : (i_GoodRow p_t p_r) = ((i_Table_isRow p_t p_r)) := by simp only [i_GoodRow, hb30, cond_true, cond_false, loopE_done, loopE_ret]
    rw [hM41]
    have q42 := Ex.trans (Ex.refl w) hE15
    have q43 := Ex.trans q42 hE21
    have q44 := Ex.trans q43 hE29
    have q45 := Ex.trans q44 hE40
    exact ⟨rfl, q45⟩
  · skip
    refine SeqR.z rfl rfl rfl rfl rfl hb30 ?_
    refine SeqR.z rfl rfl rfl rfl rfl hb30 ?_
    refine SeqR.z rfl rfl rfl rfl rfl hb30 ?_
    refine SeqR.d1 rfl rfl rfl (yl_pick_f rfl rfl hb30 rfl ?_)
    refine SeqR.d1 rfl rfl rfl (yl_assign rfl rfl ?_)
    refine SeqR.done ?_
    refine tn ?_
    refine CW.ret ?_
    refine rr rfl (.cons rfl .nil) ?_
    have hM46 : (i_GoodRow p_t p_r) = (false) := by simp only [i_GoodRow, hb30, cond_true, cond_false, loopE_done, loopE_ret]
    rw [hM46]
    have q47 := Ex.trans (Ex.refl w) hE15
    have q48 := Ex.trans q47 hE21
    have q49 := Ex.trans q48 hE29
    exact ⟨rfl, q49⟩
set_option maxRecDepth 100000 in
set_option maxHeartbeats 2000000 in
theorem c_l_eqStringS {A1 : Option Addr} {c1 : Nat} {A2 : Option Addr} {c2 : Nat} {w : World} (p_a : List Str) (p_b : List Str) (h1 : RdS w (Iv 0 w.heap.size) (RF e_Str) 1 A1 p_a.length c1 p_a) (h2 : RdS w (Iv 0 w.heap.size) (RF e_Str) 1 A2 p_b.length c2 p_b) : Cal Try.prog 97 #[.slice A1 p_a.length c1, .slice A2 p_b.length c2] w fun v w' => v = .bool ((l_eqStringS p_a p_b)) ∧ Ex w w' := by
  refine Cal.of (vs := [.slice A1 p_a.length c1, .slice A2 p_b.length c2]) Try.func97 rfl Try.ntmps97 rfl ?_
  refine CW.seq ?_
  refine CW.region ?_
  refine SeqR.d1 rfl rfl rfl (yl_assign rfl rfl ?_)
  refine SeqR.done ?_
  refine tn ?_
  refine CW.seq ?_
  refine CW.seq ?_
  refine CW.region ?_
  refine SeqR.d1 rfl rfl rfl (yl_move rfl rfl ?_)
  refine SeqR.d1 rfl rfl rfl (yl_len Try.un73 rfl rfl ?_)
  refine SeqR.d1 rfl rfl rfl (yl_move rfl rfl ?_)
  refine SeqR.d1 rfl rfl rfl (yl_len Try.un73 rfl rfl ?_)
  refine SeqR.d1 rfl rfl rfl (yl_neq rfl rfl rfl ?_)
  refine SeqR.done ?_
  refine tn ?_
  refine bcase (decide ((p_a.length : Int) = (p_b.length : Int))) (fun hb3 => ?_) (fun hb3 => ?_)
  · have hb3p := dec_t hb3
    refine CW.cond_f rfl (not_t hb3) ?_
    refine CW.skip ?_
    refine tn ?_
    refine CW.seq ?_
    refine CW.seq ?_
    refine CW.region ?_
    refine SeqR.d1 rfl rfl rfl (yl_assign rfl rfl ?_)
    refine SeqR.done ?_
    refine tn ?_
    refine CW.block ?_
    refine CW.loop (fun m5 L6 w7 => ∃ (k4 : Nat), m5 = p_a.length - k4 ∧ k4 ≤ p_a.length ∧ lkp L6 0 = some (.slice A1 p_a.length c1) ∧ lkp L6 1 = some (.slice A2 p_b.length c2) ∧ lkp L6 5 = some (.int .i64 ((k4 : Int))) ∧ RdS w7 (Iv 0 w.heap.size) (RF e_Str) 1 A1 p_a.length c1 p_a ∧ RdS w7 (Iv 0 w.heap.size) (RF e_Str) 1 A2 p_b.length c2 p_b ∧ Ex w w7 ∧ loopM (B_l_eqStringS_0 p_a p_b) (p_a.length - k4) k4 () = loopM (B_l_eqStringS_0 p_a p_b) (p_a.length - 0) 0 ()) (p_a.length - 0) ?_ ?_
    · exact ⟨0, rfl, Nat.zero_le _, rfl, rfl, rfl, h1, h2, (Ex.refl w), rfl⟩
    · rintro m8 L9 w10 ⟨k4, rfl, hk11, hl13, hl14, hl15, hf16, hf17, hf18, hI12⟩
      refine CW.sub (Sub.cons hl13 (Sub.cons hl14 (Sub.cons hl15 (Sub.nil _)))) ?_
      have hf18z := Ex.size hf18
      have hbg19 := RdS.big hf16
      rcases Nat.lt_or_ge k4 p_a.length with hlt20 | hlt20
      · skip
        refine CW.seq ?_
        refine CW.seq ?_
        refine CW.region ?_
        refine SeqR.d1 rfl rfl rfl (yl_move rfl rfl ?_)
        refine SeqR.d1 rfl rfl rfl (yl_move rfl rfl ?_)
        refine SeqR.d1 rfl rfl rfl (yl_len Try.un73 rfl rfl ?_)
        refine SeqR.d1 rfl rfl rfl (yl_lss rfl rfl rfl ?_)
        refine SeqR.done ?_
        refine tn ?_
        refine CW.cond_t rfl (lt_t hlt20) ?_
        refine CW.skip ?_
        refine tn ?_
        refine CW.seq ?_
        refine CW.block ?_
        refine CW.seq ?_
        obtain ⟨eb21, eo21, ec21, eA21, eS21, ebl21, el21, eR21, eC21⟩ := RdS.atD hf16 d_Str (i := k4) (by first | omega | assumption)
        obtain rfl := eR21
        have eC21 : Cells w10 eb21 (eo21 + k4 * 1) [.string (bs ((p_a.getD k4 d_Str)))] := eC21
        obtain ⟨eb22, eo22, ec22, eA22, eS22, ebl22, el22, eR22, eC22⟩ := RdS.atD hf17 d_Str (i := k4) (by first | omega | assumption)
        obtain rfl := eR22
        have eC22 : Cells w10 eb22 (eo22 + k4 * 1) [.string (bs ((p_b.getD k4 d_Str)))] := eC22
        refine CW.drawsI 9 (vgetI [DetI (.slice A1 p_a.length c1), DetI (.int .i64 ((k4 : Int))), DetI (.pointer (some ⟨eb21, eo21 + k4 * 1, none⟩)), DetI (.string (bs ((p_a.getD k4 d_Str)))), DetI (.slice A2 p_b.length c2), DetI (.int .i64 ((k4 : Int))), DetI (.pointer (some ⟨eb22, eo22 + k4 * 1, none⟩)), DetI (.string (bs ((p_b.getD k4 d_Str)))), DetI (.bool (!((p_a.getD k4 d_Str) == (p_b.getD k4 d_Str))))]) Try.follows rfl rfl rfl rfl rfl rfl (vgetI_stable ⟨StableI.det _, StableI.det _, StableI.det _, StableI.det _, StableI.det _, StableI.det _, StableI.det _, StableI.det _, StableI.det _, trivial⟩) ⟨?_, ?_, ?_, ?_, ?_, ?_, ?_, ?_, ?_, trivial⟩ ?_
        · intro L23 w24 hi25
          have hE26 := hi25.ex
          have hE26z := Ex.size hE26
          have hx27 := hi25.old 0 _ rfl rfl
          exact OpR.op' rfl (Yl.sameI (yl_move rfl hx27 ⟨fun _ _ => rfl, rfl⟩))
        · intro L28 w29 hi30
          have hE31 := hi30.ex
          have hE31z := Ex.size hE31
          have hx32 := hi30.old 5 _ rfl rfl
          exact OpR.op' rfl (Yl.sameI (yl_move rfl hx32 ⟨fun _ _ => rfl, rfl⟩))
        · intro L33 w34 hi35
          have hE36 := hi35.ex
          have hE36z := Ex.size hE36
          obtain ⟨_, _, _, hx37, -, -, -, rfl⟩ := hi35.dep 0 17 rfl rfl
          obtain ⟨_, _, _, hx38, -, -, -, rfl⟩ := hi35.dep 1 18 rfl rfl
          exact OpR.op' rfl (Yl.sameI (yl_indexAddrN Try.un73 Try.ty9 rfl hx37 hx38 eA21 (by first | omega | assumption | (simp only [IntKind.wrap_i64] at *; omega)) ⟨fun _ _ => rfl, rfl⟩))
        · intro L39 w40 hi41
          have hE42 := hi41.ex
          have hE42z := Ex.size hE42
          obtain ⟨_, _, _, hx43, -, -, -, rfl⟩ := hi41.dep 2 19 rfl rfl
          have q44 := Cells.ex eC21 hE42
          exact OpR.op' rfl (Yl.sameI (yl_load1 Try.ty9 rfl hx43 (q44 0 _ rfl) ⟨fun _ _ => rfl, rfl⟩))
        · intro L45 w46 hi47
          have hE48 := hi47.ex
          have hE48z := Ex.size hE48
          have hx49 := hi47.old 1 _ rfl rfl
          exact OpR.op' rfl (Yl.sameI (yl_move rfl hx49 ⟨fun _ _ => rfl, rfl⟩))
        · intro L50 w51 hi52
          have hE53 := hi52.ex
          have hE53z := Ex.size hE53
          have hx54 := hi52.old 5 _ rfl rfl
          exact OpR.op' rfl (Yl.sameI (yl_move rfl hx54 ⟨fun _ _ => rfl, rfl⟩))
        · intro L55 w56 hi57
          have hE58 := hi57.ex
          have hE58z := Ex.size hE58
          obtain ⟨_, _, _, hx59, -, -, -, rfl⟩ := hi57.dep 4 21 rfl rfl
          obtain ⟨_, _, _, hx60, -, -, -, rfl⟩ := hi57.dep 5 22 rfl rfl
          exact OpR.op' rfl (Yl.sameI (yl_indexAddrN Try.un73 Try.ty9 rfl hx59 hx60 eA22 (by first | omega | assumption | (simp only [IntKind.wrap_i64] at *; omega)) ⟨fun _ _ => rfl, rfl⟩))
        · intro L61 w62 hi63
          have hE64 := hi63.ex
          have hE64z := Ex.size hE64
          obtain ⟨_, _, _, hx65, -, -, -, rfl⟩ := hi63.dep 6 23 rfl rfl
          have q66 := Cells.ex eC22 hE64
          exact OpR.op' rfl (Yl.sameI (yl_load1 Try.ty9 rfl hx65 (q66 0 _ rfl) ⟨fun _ _ => rfl, rfl⟩))
        · intro L67 w68 hi69
          have hE70 := hi69.ex
          have hE70z := Ex.size hE70
          obtain ⟨_, _, _, hx71, -, -, -, rfl⟩ := hi69.dep 3 20 rfl rfl
          obtain ⟨_, _, _, hx72, -, -, -, rfl⟩ := hi69.dep 7 24 rfl rfl
          exact OpR.op' rfl (Yl.sameI (yl_sneq (a := (p_a.getD k4 d_Str)) (b := (p_b.getD k4 d_Str)) rfl hx71 hx72 ⟨fun _ _ => rfl, rfl⟩))
        · intro fl76 fh77 L73 w74 hp75
          have hE78 := hp75.ex
          have hE78z := Ex.size hE78
          have hx79 := hp75.old 0 _ rfl rfl
          have hx80 := hp75.old 1 _ rfl rfl
          have hx81 := hp75.old 5 _ rfl rfl
          obtain ⟨_, hx82, rfl⟩ := hp75.new 8 25 rfl rfl
          refine SeqR.done ?_
          refine tn ?_
          refine CW.sub (Sub.cons (d := 0) hx79 (Sub.cons (d := 1) hx80 (Sub.cons (d := 5) hx81 (Sub.cons (d := 25) hx82 (Sub.nil _))))) ?_
          refine bcase ((p_a.getD k4 d_Str) == (p_b.getD k4 d_Str)) (fun hb83 => ?_) (fun hb83 => ?_)
          · skip
            refine CW.cond_f rfl (not_t hb83) ?_
            refine CW.skip ?_
            refine bn ?_
            refine tn ?_
            refine CW.region ?_
            refine SeqR.d1 rfl rfl rfl (yl_move rfl rfl ?_)
            refine SeqR.d1 rfl rfl rfl (yl_inc rfl rfl rfl (by omega) ?_)
            refine SeqR.d1 rfl rfl rfl (yl_assign rfl rfl ?_)
            refine SeqR.done ?_
            refine tn ?_
            have hB84 : B_l_eqStringS_0 p_a p_b k4 () = .cont () := by simp only [B_l_eqStringS_0, hb3, hb83, cond_true, cond_false, loopE_done, loopE_ret]
            have q85 := RdS.ex good_Str hf16 hE78
            have q86 := RdS.ex good_Str hf17 hE78
            have q87 := Ex.trans hf18 hE78
            exact ⟨p_a.length - (k4 + 1), by omega, k4 + 1, rfl, hlt20, rfl, rfl, rfl, q85, q86, q87, (loopM.cont hlt20 hB84).symm.trans hI12⟩
          · skip
            refine CW.cond_t rfl (not_f hb83) ?_
            refine CW.seq ?_
            refine CW.region ?_
            refine SeqR.d1 rfl rfl rfl (yl_assign rfl rfl ?_)
            refine SeqR.done ?_
            refine tn ?_
            refine CW.ret ?_
            refine br ?_
            refine tr ?_
            refine tr ?_
            have hB89 : B_l_eqStringS_0 p_a p_b k4 () = .ret false := by simp only [B_l_eqStringS_0, hb3, hb83, cond_true, cond_false, loopE_done, loopE_ret]
            have hL88 : loopM (B_l_eqStringS_0 p_a p_b) (p_a.length - 0) 0 () = .ret false := hI12.symm.trans (loopM.ret hlt20 hB89)
            refine br ?_
            refine tr ?_
            refine rr rfl (.cons rfl .nil) ?_
            have hM90 : (l_eqStringS p_a p_b) = (false) := by simp only [l_eqStringS, hb3, hb83, hL88, cond_true, cond_false, loopE_done, loopE_ret]
            rw [hM90]
            have q91 := Ex.trans hf18 hE78
            exact ⟨rfl, q91⟩
      · skip
        refine CW.seq ?_
        refine CW.seq ?_
        refine CW.region ?_
        refine SeqR.d1 rfl rfl rfl (yl_move rfl rfl ?_)
        refine SeqR.d1 rfl rfl rfl (yl_move rfl rfl ?_)
        refine SeqR.d1 rfl rfl rfl (yl_len Try.un73 rfl rfl ?_)
        refine SeqR.d1 rfl rfl rfl (yl_lss rfl rfl rfl ?_)
        refine SeqR.done ?_
        refine tn ?_
        refine CW.cond_f rfl (lt_f hlt20) ?_
        refine CW.exit ?_
        refine tx ?_
        refine tx ?_
        have hL92 : loopM (B_l_eqStringS_0 p_a p_b) (p_a.length - 0) 0 () = .done () := hI12.symm.trans (loopM.stop hlt20)
        refine bx ?_
        refine tn ?_
        refine CW.seq ?_
        refine CW.region ?_
        refine SeqR.d1 rfl rfl rfl (yl_assign rfl rfl ?_)
        refine SeqR.done ?_
        refine tn ?_
        refine CW.ret ?_
        refine rr rfl (.cons rfl .nil) ?_
        have hM93 : (l_eqStringS p_a p_b) = (true) := by simp only [l_eqStringS, hb3, hL92, cond_true, cond_false, loopE_done, loopE_ret]
        rw [hM93]
        exact ⟨rfl, hf18⟩
  · have hb3p := dec_f hb3
    refine CW.cond_t rfl (not_f hb3) ?_
    refine CW.seq ?_
    refine CW.region ?_
    refine SeqR.d1 rfl rfl rfl (yl_assign rfl rfl ?_)
    refine SeqR.done ?_
    refine tn ?_
    refine CW.ret ?_
    refine tr ?_
    refine rr rfl (.cons rfl .nil) ?_
    have hM94 : (l_eqStringS p_a p_b) = (false) := by simp only [l_eqStringS, hb3, cond_true, cond_false, loopE_done, loopE_ret]
    rw [hM94]
    exact ⟨rfl, (Ex.refl w)⟩
set_option maxRecDepth 100000 in
set_option maxHeartbeats 2000000 in
theorem c_l_eqIdx {w : World} (p_a : DIdx) (p_b : DIdx) : Cal Try.prog 125 #[.agg #[.string (bs (p_a.Name)), .int .i64 (p_a.Col), .int .i64 (p_a.Stage)], .agg #[.string (bs (p_b.Name)), .int .i64 (p_b.Col), .int .i64 (p_b.Stage)]] w fun v w' => v = .bool ((l_eqIdx p_a p_b)) ∧ Ex w w' := by
  refine Cal.of (vs := [.agg #[.string (bs (p_a.Name)), .int .i64 (p_a.Col), .int .i64 (p_a.Stage)], .agg #[.string (bs (p_b.Name)), .int .i64 (p_b.Col), .int .i64 (p_b.Stage)]]) Try.func125 rfl Try.ntmps125 rfl ?_
  refine CW.seq ?_
  refine CW.region ?_
  refine SeqR.d1 rfl rfl rfl (yl_box (cs := [.string (bs (p_a.Name)), .int .i64 (p_a.Col), .int .i64 (p_a.Stage)]) rfl rfl rfl ?_)
  intro b1 w2 hs3 hz4 hB5 hE6
  refine SeqR.d1 rfl rfl rfl (yl_box (cs := [.string (bs (p_b.Name)), .int .i64 (p_b.Col), .int .i64 (p_b.Stage)]) rfl rfl rfl ?_)
  intro b7 w8 hs9 hz10 hB11 hE12
  refine SeqR.d1 rfl rfl rfl (yl_assign rfl rfl ?_)
  refine SeqR.done ?_
  refine tn ?_
  refine CW.seq ?_
  refine CW.seq ?_
  refine CW.region ?_
  refine SeqR.d1 rfl rfl rfl (yl_fieldAddr Try.fd149_0 rfl rfl ?_)
  have q13 := Box.ex hB5 hE12
  refine SeqR.d1 rfl rfl rfl (yl_load1 Try.ty9 rfl rfl ((q13.cell 0).trans rfl) ?_)
  refine SeqR.d1 rfl rfl rfl (yl_fieldAddr Try.fd149_0 rfl rfl ?_)
  refine SeqR.d1 rfl rfl rfl (yl_load1 Try.ty9 rfl rfl ((hB11.cell 0).trans rfl) ?_)
  refine SeqR.d1 rfl rfl rfl (yl_sneq (a := p_a.Name) (b := p_b.Name) rfl rfl rfl ?_)
  refine SeqR.done ?_
  refine tn ?_
  refine bcase (p_a.Name == p_b.Name) (fun hb14 => ?_) (fun hb14 => ?_)
  · skip
    refine CW.cond_f rfl (not_t hb14) ?_
    refine CW.skip ?_
    refine tn ?_
    refine CW.seq ?_
    refine CW.seq ?_
    refine CW.region ?_
    refine SeqR.d1 rfl rfl rfl (yl_fieldAddr Try.fd149_1 rfl rfl ?_)
    refine SeqR.d1 rfl rfl rfl (yl_load1 Try.ty3 rfl rfl ((q13.cell 1).trans rfl) ?_)
    refine SeqR.d1 rfl rfl rfl (yl_fieldAddr Try.fd149_1 rfl rfl ?_)
    refine SeqR.d1 rfl rfl rfl (yl_load1 Try.ty3 rfl rfl ((hB11.cell 1).trans rfl) ?_)
    refine SeqR.d1 rfl rfl rfl (yl_neq rfl rfl rfl ?_)
    refine SeqR.done ?_
    refine tn ?_
    refine bcase (decide (p_a.Col = p_b.Col)) (fun hb15 => ?_) (fun hb15 => ?_)
    · have hb15p := dec_t hb15
      refine CW.cond_f rfl (not_t hb15) ?_
      refine CW.skip ?_
      refine tn ?_
      refine CW.seq ?_
      refine CW.seq ?_
      refine CW.region ?_
      refine SeqR.d1 rfl rfl rfl (yl_fieldAddr Try.fd149_2 rfl rfl ?_)
      refine SeqR.d1 rfl rfl rfl (yl_load1 Try.ty3 rfl rfl ((q13.cell 2).trans rfl) ?_)
      refine SeqR.d1 rfl rfl rfl (yl_fieldAddr Try.fd149_2 rfl rfl ?_)
      refine SeqR.d1 rfl rfl rfl (yl_load1 Try.ty3 rfl rfl ((hB11.cell 2).trans rfl) ?_)
      refine SeqR.d1 rfl rfl rfl (yl_neq rfl rfl rfl ?_)
      refine SeqR.done ?_
      refine tn ?_
      refine bcase (decide (p_a.Stage = p_b.Stage)) (fun hb16 => ?_) (fun hb16 => ?_)
      · have hb16p := dec_t hb16
        refine CW.cond_f rfl (not_t hb16) ?_
        refine CW.skip ?_
        refine tn ?_
        refine CW.seq ?_
        refine CW.region ?_
        refine SeqR.d1 rfl rfl rfl (yl_assign rfl rfl ?_)
        refine SeqR.done ?_
        refine tn ?_
        refine CW.ret ?_
        refine rr rfl (.cons rfl .nil) ?_
        have hM17 : (l_eqIdx p_a p_b) = (true) := by simp only [l_eqIdx, hb14, hb15, hb16, cond_true, cond_false, loopE_done, loopE_ret]
        rw [hM17]
        have q18 := Ex.trans (Ex.refl w) hE6
        have q19 := Ex.trans q18 hE12
        exact ⟨rfl, q19⟩
      · have hb16p := dec_f hb16
        refine CW.cond_t rfl (not_f hb16) ?_
        refine CW.seq ?_
        refine CW.region ?_
        refine SeqR.d1 rfl rfl rfl (yl_assign rfl rfl ?_)
        refine SeqR.done ?_
        refine tn ?_
        refine CW.ret ?_
        refine tr ?_
        refine rr rfl (.cons rfl .nil) ?_
        have hM20 : (l_eqIdx p_a p_b) = (false) := by simp only [l_eqIdx, hb14, hb15, hb16, cond_true, cond_false, loopE_done, loopE_ret]
        rw [hM20]
        have q21 := Ex.trans (Ex.refl w) hE6
        have q22 := Ex.trans q21 hE12
        exact ⟨rfl, q22⟩
    · have hb15p := dec_f hb15
      refine CW.cond_t rfl (not_f hb15) ?_
      refine CW.seq ?_
      refine CW.region ?_
      refine SeqR.d1 rfl rfl rfl (yl_assign rfl rfl ?_)
      refine SeqR.done ?_
      refine tn ?_
      refine CW.ret ?_
      refine tr ?_
      refine rr rfl (.cons rfl .nil) ?_
      have hM23 : (l_eqIdx p_a p_b) = (false) := by simp only [l_eqIdx, hb14, hb15, cond_true, cond_false, loopE_done, loopE_ret]
      rw [hM23]
      have q24 := Ex.trans (Ex.refl w) hE6
      have q25 := Ex.trans q24 hE12
      exact ⟨rfl, q25⟩
  · skip
    refine CW.cond_t rfl (not_f hb14) ?_
    refine CW.seq ?_
    refine CW.region ?_
    refine SeqR.d1 rfl rfl rfl (yl_assign rfl rfl ?_)
    refine SeqR.done ?_
    refine tn ?_
    refine CW.ret ?_
    refine tr ?_
    refine rr rfl (.cons rfl .nil) ?_
    have hM26 : (l_eqIdx p_a p_b) = (false) := by simp only [l_eqIdx, hb14, cond_true, cond_false, loopE_done, loopE_ret]
    rw [hM26]
    have q27 := Ex.trans (Ex.refl w) hE6
    have q28 := Ex.trans q27 hE12
    exact ⟨rfl, q28⟩
set_option maxRecDepth 100000 in
set_option maxHeartbeats 2000000 in
theorem c_l_eqIdxS {A1 : Option Addr} {c1 : Nat} {A2 : Option Addr} {c2 : Nat} {w : World} (p_a : List DIdx) (p_b : List DIdx) (h1 : RdS w (Iv 0 w.heap.size) (RF e_Idx) 3 A1 p_a.length c1 p_a) (h2 : RdS w (Iv 0 w.heap.size) (RF e_Idx) 3 A2 p_b.length c2 p_b) : Cal Try.prog 98 #[.slice A1 p_a.length c1, .slice A2 p_b.length c2] w fun v w' => v = .bool ((l_eqIdxS p_a p_b)) ∧ Ex w w' := by
  refine Cal.of (vs := [.slice A1 p_a.length c1, .slice A2 p_b.length c2]) Try.func98 rfl Try.ntmps98 rfl ?_
  refine CW.seq ?_
  refine CW.region ?_
  refine SeqR.d1 rfl rfl rfl (yl_assign rfl rfl ?_)
  refine SeqR.done ?_
  refine tn ?_
  refine CW.seq ?_
  refine CW.seq ?_
  refine CW.region ?_
  refine SeqR.d1 rfl rfl rfl (yl_move rfl rfl ?_)
  refine SeqR.d1 rfl rfl rfl (yl_len Try.un82 rfl rfl ?_)
  refine SeqR.d1 rfl rfl rfl (yl_move rfl rfl ?_)
  refine SeqR.d1 rfl rfl rfl (yl_len Try.un82 rfl rfl ?_)
  refine SeqR.d1 rfl rfl rfl (yl_neq rfl rfl rfl ?_)
  refine SeqR.done ?_
  refine tn ?_
  refine bcase (decide ((p_a.length : Int) = (p_b.length : Int))) (fun hb3 => ?_) (fun hb3 => ?_)
  · have hb3p := dec_t hb3
    refine CW.cond_f rfl (not_t hb3) ?_
    refine CW.skip ?_
    refine tn ?_
    refine CW.seq ?_
    refine CW.seq ?_
    refine CW.region ?_
    refine SeqR.d1 rfl rfl rfl (yl_assign rfl rfl ?_)
    refine SeqR.done ?_
    refine tn ?_
    refine CW.block ?_
    refine CW.loop (fun m5 L6 w7 => ∃ (k4 : Nat), m5 = p_a.length - k4 ∧ k4 ≤ p_a.length ∧ lkp L6 0 = some (.slice A1 p_a.length c1) ∧ lkp L6 1 = some (.slice A2 p_b.length c2) ∧ lkp L6 5 = some (.int .i64 ((k4 : Int))) ∧ RdS w7 (Iv 0 w.heap.size) (RF e_Idx) 3 A1 p_a.length c1 p_a ∧ RdS w7 (Iv 0 w.heap.size) (RF e_Idx) 3 A2 p_b.length c2 p_b ∧ Ex w w7 ∧ loopM (B_l_eqIdxS_0 p_a p_b) (p_a.length - k4) k4 () = loopM (B_l_eqIdxS_0 p_a p_b) (p_a.length - 0) 0 ()) (p_a.length - 0) ?_ ?_
    · exact ⟨0, rfl, Nat.zero_le _, rfl, rfl, rfl, h1, h2, (Ex.refl w), rfl⟩
    · rintro m8 L9 w10 ⟨k4, rfl, hk11, hl13, hl14, hl15, hf16, hf17, hf18, hI12⟩
      refine CW.sub (Sub.cons hl13 (Sub.cons hl14 (Sub.cons hl15 (Sub.nil _)))) ?_
      have hf18z := Ex.size hf18
      have hbg19 := RdS.big hf16
      rcases Nat.lt_or_ge k4 p_a.length with hlt20 | hlt20
      · skip
        refine CW.seq ?_
        refine CW.seq ?_
        refine CW.region ?_
        refine SeqR.d1 rfl rfl rfl (yl_move rfl rfl ?_)
        refine SeqR.d1 rfl rfl rfl (yl_move rfl rfl ?_)
        refine SeqR.d1 rfl rfl rfl (yl_len Try.un82 rfl rfl ?_)
        refine SeqR.d1 rfl rfl rfl (yl_lss rfl rfl rfl ?_)
        refine SeqR.done ?_
        refine tn ?_
        refine CW.cond_t rfl (lt_t hlt20) ?_
        refine CW.skip ?_
        refine tn ?_
        refine CW.seq ?_
        refine CW.block ?_
        refine CW.seq ?_
        obtain ⟨eb21, eo21, ec21, eA21, eS21, ebl21, el21, eR21, eC21⟩ := RdS.atD hf16 d_Idx (i := k4) (by first | omega | assumption)
        obtain rfl := eR21
        have eC21 : Cells w10 eb21 (eo21 + k4 * 3) [.string (bs ((p_a.getD k4 d_Idx).Name)), .int .i64 ((p_a.getD k4 d_Idx).Col), .int .i64 ((p_a.getD k4 d_Idx).Stage)] := eC21
        obtain ⟨eb22, eo22, ec22, eA22, eS22, ebl22, el22, eR22, eC22⟩ := RdS.atD hf17 d_Idx (i := k4) (by first | omega | assumption)
        obtain rfl := eR22
        have eC22 : Cells w10 eb22 (eo22 + k4 * 3) [.string (bs ((p_b.getD k4 d_Idx).Name)), .int .i64 ((p_b.getD k4 d_Idx).Col), .int .i64 ((p_b.getD k4 d_Idx).Stage)] := eC22
        refine CW.drawsI 10 (vgetI [DetI (.slice A1 p_a.length c1), DetI (.int .i64 ((k4 : Int))), DetI (.pointer (some ⟨eb21, eo21 + k4 * 3, none⟩)), DetI (.agg #[.string (bs ((p_a.getD k4 d_Idx).Name)), .int .i64 ((p_a.getD k4 d_Idx).Col), .int .i64 ((p_a.getD k4 d_Idx).Stage)]), DetI (.slice A2 p_b.length c2), DetI (.int .i64 ((k4 : Int))), DetI (.pointer (some ⟨eb22, eo22 + k4 * 3, none⟩)), DetI (.agg #[.string (bs ((p_b.getD k4 d_Idx).Name)), .int .i64 ((p_b.getD k4 d_Idx).Col), .int .i64 ((p_b.getD k4 d_Idx).Stage)]), DetI (.bool ((l_eqIdx (p_a.getD k4 d_Idx) (p_b.getD k4 d_Idx)))), DetI (.bool (!(l_eqIdx (p_a.getD k4 d_Idx) (p_b.getD k4 d_Idx))))]) Try.follows rfl rfl rfl rfl rfl rfl (vgetI_stable ⟨StableI.det _, StableI.det _, StableI.det _, StableI.det _, StableI.det _, StableI.det _, StableI.det _, StableI.det _, StableI.det _, StableI.det _, trivial⟩) ⟨?_, ?_, ?_, ?_, ?_, ?_, ?_, ?_, ?_, ?_, trivial⟩ ?_
        · intro L24 w25 hi26
          have hE27 := hi26.ex
          have hE27z := Ex.size hE27
          have hx28 := hi26.old 0 _ rfl rfl
          exact OpR.op' rfl (Yl.sameI (yl_move rfl hx28 ⟨fun _ _ => rfl, rfl⟩))
        · intro L29 w30 hi31
          have hE32 := hi31.ex
          have hE32z := Ex.size hE32
          have hx33 := hi31.old 5 _ rfl rfl
          exact OpR.op' rfl (Yl.sameI (yl_move rfl hx33 ⟨fun _ _ => rfl, rfl⟩))
        · intro L34 w35 hi36
          have hE37 := hi36.ex
          have hE37z := Ex.size hE37
          obtain ⟨_, _, _, hx38, -, -, -, rfl⟩ := hi36.dep 0 17 rfl rfl
          obtain ⟨_, _, _, hx39, -, -, -, rfl⟩ := hi36.dep 1 18 rfl rfl
          exact OpR.op' rfl (Yl.sameI (yl_indexAddrN Try.un82 Try.ty149 rfl hx38 hx39 eA21 (by first | omega | assumption | (simp only [IntKind.wrap_i64] at *; omega)) ⟨fun _ _ => rfl, rfl⟩))
        · intro L40 w41 hi42
          have hE43 := hi42.ex
          have hE43z := Ex.size hE43
          obtain ⟨_, _, _, hx44, -, -, -, rfl⟩ := hi42.dep 2 19 rfl rfl
          have q45 := Cells.ex eC21 hE43
          exact OpR.op' rfl (Yl.sameI (yl_loadN (cs := [.string (bs ((p_a.getD k4 d_Idx).Name)), .int .i64 ((p_a.getD k4 d_Idx).Col), .int .i64 ((p_a.getD k4 d_Idx).Stage)]) Try.ty149 rfl hx44 q45 rfl ⟨fun _ _ => rfl, rfl⟩))
        · intro L46 w47 hi48
          have hE49 := hi48.ex
          have hE49z := Ex.size hE49
          have hx50 := hi48.old 1 _ rfl rfl
          exact OpR.op' rfl (Yl.sameI (yl_move rfl hx50 ⟨fun _ _ => rfl, rfl⟩))
        · intro L51 w52 hi53
          have hE54 := hi53.ex
          have hE54z := Ex.size hE54
          have hx55 := hi53.old 5 _ rfl rfl
          exact OpR.op' rfl (Yl.sameI (yl_move rfl hx55 ⟨fun _ _ => rfl, rfl⟩))
        · intro L56 w57 hi58
          have hE59 := hi58.ex
          have hE59z := Ex.size hE59
          obtain ⟨_, _, _, hx60, -, -, -, rfl⟩ := hi58.dep 4 21 rfl rfl
          obtain ⟨_, _, _, hx61, -, -, -, rfl⟩ := hi58.dep 5 22 rfl rfl
          exact OpR.op' rfl (Yl.sameI (yl_indexAddrN Try.un82 Try.ty149 rfl hx60 hx61 eA22 (by first | omega | assumption | (simp only [IntKind.wrap_i64] at *; omega)) ⟨fun _ _ => rfl, rfl⟩))
        · intro L62 w63 hi64
          have hE65 := hi64.ex
          have hE65z := Ex.size hE65
          obtain ⟨_, _, _, hx66, -, -, -, rfl⟩ := hi64.dep 6 23 rfl rfl
          have q67 := Cells.ex eC22 hE65
          exact OpR.op' rfl (Yl.sameI (yl_loadN (cs := [.string (bs ((p_b.getD k4 d_Idx).Name)), .int .i64 ((p_b.getD k4 d_Idx).Col), .int .i64 ((p_b.getD k4 d_Idx).Stage)]) Try.ty149 rfl hx66 q67 rfl ⟨fun _ _ => rfl, rfl⟩))
        · intro L68 w69 hi70
          have hE71 := hi70.ex
          have hE71z := Ex.size hE71
          obtain ⟨_, _, _, hx72, -, -, -, rfl⟩ := hi70.dep 3 20 rfl rfl
          obtain ⟨_, _, _, hx73, -, -, -, rfl⟩ := hi70.dep 7 24 rfl rfl
          refine OpR.op' rfl (yl_call Try.en125 rfl (opvs_cons hx72 (opvs_cons hx73 opvs_nil)) (Cal.mono (c_l_eqIdx (p_a.getD k4 d_Idx) (p_b.getD k4 d_Idx)) ?_))
          rintro v75 w74 ⟨rfl, hE76⟩
          exact ⟨rfl, hE76⟩
        · intro L77 w78 hi79
          have hE80 := hi79.ex
          have hE80z := Ex.size hE80
          obtain ⟨_, _, _, hx81, -, -, -, rfl⟩ := hi79.dep 8 25 rfl rfl
          exact OpR.op' rfl (Yl.sameI (yl_not rfl hx81 ⟨fun _ _ => rfl, rfl⟩))
        · intro fl85 fh86 L82 w83 hp84
          have hE87 := hp84.ex
          have hE87z := Ex.size hE87
          have hx88 := hp84.old 0 _ rfl rfl
          have hx89 := hp84.old 1 _ rfl rfl
          have hx90 := hp84.old 5 _ rfl rfl
          obtain ⟨_, hx91, rfl⟩ := hp84.new 9 26 rfl rfl
          refine SeqR.done ?_
          refine tn ?_
          refine CW.sub (Sub.cons (d := 0) hx88 (Sub.cons (d := 1) hx89 (Sub.cons (d := 5) hx90 (Sub.cons (d := 26) hx91 (Sub.nil _))))) ?_
          refine bcase (l_eqIdx (p_a.getD k4 d_Idx) (p_b.getD k4 d_Idx)) (fun hb92 => ?_) (fun hb92 => ?_)
          · skip
            refine CW.cond_f rfl (not_t hb92) ?_
            refine CW.skip ?_
            refine bn ?_
            refine tn ?_
            refine CW.region ?_
            refine SeqR.d1 rfl rfl rfl (yl_move rfl rfl ?_)
            refine SeqR.d1 rfl rfl rfl (yl_inc rfl rfl rfl (by omega) ?_)
            refine SeqR.d1 rfl rfl rfl (yl_assign rfl rfl ?_)
            refine SeqR.done ?_
            refine tn ?_
            have hB93 : B_l_eqIdxS_0 p_a p_b k4 () = .cont () := by simp only [B_l_eqIdxS_0, hb3, hb92, cond_true, cond_false, loopE_done, loopE_ret]
            have q94 := RdS.ex good_Idx hf16 hE87
            have q95 := RdS.ex good_Idx hf17 hE87
            have q96 := Ex.trans hf18 hE87
            exact ⟨p_a.length - (k4 + 1), by omega, k4 + 1, rfl, hlt20, rfl, rfl, rfl, q94, q95, q96, (loopM.cont hlt20 hB93).symm.trans hI12⟩
          · skip
            refine CW.cond_t rfl (not_f hb92) ?_
            refine CW.seq ?_
            refine CW.region ?_
            refine SeqR.d1 rfl rfl rfl (yl_assign rfl rfl ?_)
            refine SeqR.done ?_
            refine tn ?_
            refine CW.ret ?_
            refine br ?_
            refine tr ?_
            refine tr ?_
            have hB98 : B_l_eqIdxS_0 p_a p_b k4 () = .ret false := by simp only [B_l_eqIdxS_0, hb3, hb92, cond_true, cond_false, loopE_done, loopE_ret]
            have hL97 : loopM (B_l_eqIdxS_0 p_a p_b) (p_a.length - 0) 0 () = .ret false := hI12.symm.trans (loopM.ret hlt20 hB98)
            refine br ?_
            refine tr ?_
            refine rr rfl (.cons rfl .nil) ?_
            have hM99 : (l_eqIdxS p_a p_b) = (false) := by simp only [l_eqIdxS, hb3, hb92, hL97, cond_true, cond_false, loopE_done, loopE_ret]
            rw [hM99]
            have q100 := Ex.trans hf18 hE87
            exact ⟨rfl, q100⟩
      · skip
        refine CW.seq ?_
        refine CW.seq ?_
        refine CW.region ?_
        refine SeqR.d1 rfl rfl rfl (yl_move rfl rfl ?_)
        refine SeqR.d1 rfl rfl rfl (yl_move rfl rfl ?_)
        refine SeqR.d1 rfl rfl rfl (yl_len Try.un82 rfl rfl ?_)
        refine SeqR.d1 rfl rfl rfl (yl_lss rfl rfl rfl ?_)
        refine SeqR.done ?_
        refine tn ?_
        refine CW.cond_f rfl (lt_f hlt20) ?_
        refine CW.exit ?_
        refine tx ?_
        refine tx ?_
        have hL101 : loopM (B_l_eqIdxS_0 p_a p_b) (p_a.length - 0) 0 () = .done () := hI12.symm.trans (loopM.stop hlt20)
        refine bx ?_
        refine tn ?_
        refine CW.seq ?_
        refine CW.region ?_
        refine SeqR.d1 rfl rfl rfl (yl_assign rfl rfl ?_)
        refine SeqR.done ?_
        refine tn ?_
        refine CW.ret ?_
        refine rr rfl (.cons rfl .nil) ?_
        have hM102 : (l_eqIdxS p_a p_b) = (true) := by simp only [l_eqIdxS, hb3, hL101, cond_true, cond_false, loopE_done, loopE_ret]
        rw [hM102]
        exact ⟨rfl, hf18⟩
  · have hb3p := dec_f hb3
    refine CW.cond_t rfl (not_f hb3) ?_
    refine CW.seq ?_
    refine CW.region ?_
    refine SeqR.d1 rfl rfl rfl (yl_assign rfl rfl ?_)
    refine SeqR.done ?_
    refine tn ?_
    refine CW.ret ?_
    refine tr ?_
    refine rr rfl (.cons rfl .nil) ?_
    have hM103 : (l_eqIdxS p_a p_b) = (false) := by simp only [l_eqIdxS, hb3, cond_true, cond_false, loopE_done, loopE_ret]
    rw [hM103]
    exact ⟨rfl, (Ex.refl w)⟩
set_option maxRecDepth 100000 in
set_option maxHeartbeats 2000000 in
theorem c_l_eqTable {A1 : Option Addr} {c1 : Nat} {A2 : Option Addr} {c2 : Nat} {A3 : Option Addr} {c3 : Nat} {A4 : Option Addr} {c4 : Nat} {w : World} (p_a : DTable) (p_b : DTable) (h1 : RdS w (Iv 0 w.heap.size) (RF e_Str) 1 A1 p_a.Cols.length c1 p_a.Cols) (h2 : RdS w (Iv 0 w.heap.size) (RF e_Idx) 3 A2 p_a.Idxs.length c2 p_a.Idxs) (h3 : RdS w (Iv 0 w.heap.size) (RF e_Str) 1 A3 p_b.Cols.length c3 p_b.Cols) (h4 : RdS w (Iv 0 w.heap.size) (RF e_Idx) 3 A4 p_b.Idxs.length c4 p_b.Idxs) : Cal Try.prog 48 #[.agg #[.string (bs (p_a.Name)), .slice A1 p_a.Cols.length c1, .slice A2 p_a.Idxs.length c2], .agg #[.string (bs (p_b.Name)), .slice A3 p_b.Cols.length c3, .slice A4 p_b.Idxs.length c4]] w fun v w' => v = .bool ((l_eqTable p_a p_b)) ∧ Ex w w' := by
  refine Cal.of (vs := [.agg #[.string (bs (p_a.Name)), .slice A1 p_a.Cols.length c1, .slice A2 p_a.Idxs.length c2], .agg #[.string (bs (p_b.Name)), .slice A3 p_b.Cols.length c3, .slice A4 p_b.Idxs.length c4]]) Try.func48 rfl Try.ntmps48 rfl ?_
  refine CW.seq ?_
  refine CW.region ?_
  refine SeqR.d1 rfl rfl rfl (yl_box (cs := [.string (bs (p_a.Name)), .slice A1 p_a.Cols.length c1, .slice A2 p_a.Idxs.length c2]) rfl rfl rfl ?_)
  intro b5 w6 hs7 hz8 hB9 hE10
  refine SeqR.d1 rfl rfl rfl (yl_box (cs := [.string (bs (p_b.Name)), .slice A3 p_b.Cols.length c3, .slice A4 p_b.Idxs.length c4]) rfl rfl rfl ?_)
  intro b11 w12 hs13 hz14 hB15 hE16
  refine SeqR.d1 rfl rfl rfl (yl_assign rfl rfl ?_)
  refine SeqR.done ?_
  refine tn ?_
  refine CW.seq ?_
  refine CW.seq ?_
  refine CW.region ?_
  refine SeqR.d1 rfl rfl rfl (yl_fieldAddr Try.fd84_0 rfl rfl ?_)
  have q17 := Box.ex hB9 hE16
  refine SeqR.d1 rfl rfl rfl (yl_load1 Try.ty9 rfl rfl ((q17.cell 0).trans rfl) ?_)
  refine SeqR.d1 rfl rfl rfl (yl_fieldAddr Try.fd84_0 rfl rfl ?_)
  refine SeqR.d1 rfl rfl rfl (yl_load1 Try.ty9 rfl rfl ((hB15.cell 0).trans rfl) ?_)
  refine SeqR.d1 rfl rfl rfl (yl_sneq (a := p_a.Name) (b := p_b.Name) rfl rfl rfl ?_)
  refine SeqR.done ?_
  refine tn ?_
  refine bcase (p_a.Name == p_b.Name) (fun hb18 => ?_) (fun hb18 => ?_)
  · skip
    refine CW.cond_f rfl (not_t hb18) ?_
    refine CW.skip ?_
    refine tn ?_
    refine CW.seq ?_
    refine CW.seq ?_
    refine CW.region ?_
    refine SeqR.d1 rfl rfl rfl (yl_fieldAddr Try.fd84_1 rfl rfl ?_)
    refine SeqR.d1 rfl rfl rfl (yl_load1 Try.ty73 rfl rfl ((q17.cell 1).trans rfl) ?_)
    refine SeqR.d1 rfl rfl rfl (yl_fieldAddr Try.fd84_1 rfl rfl ?_)
    refine SeqR.d1 rfl rfl rfl (yl_load1 Try.ty73 rfl rfl ((hB15.cell 1).trans rfl) ?_)
    have q19 := RdS.ex good_Str h1 hE10
    have q20 := RdS.ex good_Str q19 hE16
    have q21 := RdS.ex good_Str h3 hE10
    have q22 := RdS.ex good_Str q21 hE16
    refine SeqR.d1 rfl rfl rfl (yl_call Try.en97 rfl (opvs_cons rfl (opvs_cons rfl opvs_nil)) (Cal.mono (c_l_eqStringS p_a.Cols p_b.Cols (RdS.up q20 good_Str) (RdS.up q22 good_Str)) ?_))
    rintro v24 w23 ⟨rfl, hE25⟩
    have hE25z := Ex.size hE25
    refine SeqR.d1 rfl rfl rfl (yl_not rfl rfl ?_)
    refine SeqR.done ?_
    refine tn ?_
    refine bcase (l_eqStringS p_a.Cols p_b.Cols) (fun hb26 => ?_) (fun hb26 => ?_)
    · skip
      refine CW.cond_f rfl (not_t hb26) ?_
      refine CW.skip ?_
      refine tn ?_
      refine CW.seq ?_
      refine CW.seq ?_
      refine CW.region ?_
      refine SeqR.d1 rfl rfl rfl (yl_fieldAddr Try.fd84_2 rfl rfl ?_)
      have q27 := Box.ex q17 hE25
      refine SeqR.d1 rfl rfl rfl (yl_load1 Try.ty82 rfl rfl ((q27.cell 2).trans rfl) ?_)
      refine SeqR.d1 rfl rfl rfl (yl_fieldAddr Try.fd84_2 rfl rfl ?_)
      have q28 := Box.ex hB15 hE25
      refine SeqR.d1 rfl rfl rfl (yl_load1 Try.ty82 rfl rfl ((q28.cell 2).trans rfl) ?_)
      have q29 := RdS.ex good_Idx h2 hE10
      have q30 := RdS.ex good_Idx q29 hE16
      have q31 := RdS.ex good_Idx q30 hE25
      have q32 := RdS.ex good_Idx h4 hE10
      have q33 := RdS.ex good_Idx q32 hE16
      have q34 := RdS.ex good_Idx q33 hE25
      refine SeqR.d1 rfl rfl rfl (yl_call Try.en98 rfl (opvs_cons rfl (opvs_cons rfl opvs_nil)) (Cal.mono (c_l_eqIdxS p_a.Idxs p_b.Idxs (RdS.up q31 good_Idx) (RdS.up q34 good_Idx)) ?_))
      rintro v36 w35 ⟨rfl, hE37⟩
      have hE37z := Ex.size hE37
      refine SeqR.d1 rfl rfl rfl (yl_not rfl rfl ?_)
      refine SeqR.done ?_
      refine tn ?_
      refine bcase (l_eqIdxS p_a.Idxs p_b.Idxs) (fun hb38 => ?_) (fun hb38 => ?_)
      · skip
        refine CW.cond_f rfl (not_t hb38) ?_
        refine CW.skip ?_
        refine tn ?_
        refine CW.seq ?_
        refine CW.region ?_
        refine SeqR.d1 rfl rfl rfl (yl_assign rfl rfl ?_)
        refine SeqR.done ?_
        refine tn ?_
        refine CW.ret ?_
        refine rr rfl (.cons rfl .nil) ?_
        have hM39 : (l_eqTable p_a p_b) = (true) := by simp only [l_eqTable, hb18, hb26, hb38, cond_true, cond_false, loopE_done, loopE_ret]
        rw [hM39]
        have q40 := Ex.trans (Ex.refl w) hE10
        have q41 := Ex.trans q40 hE16
        have q42 := Ex.trans q41 hE25
        have q43 := Ex.trans q42 hE37
        exact ⟨rfl, q43⟩
      · skip
        refine CW.cond_t rfl (not_f hb38) ?_
        refine CW.seq ?_
        refine CW.region ?_
        refine SeqR.d1 rfl rfl rfl (yl_assign rfl rfl ?_)
        refine SeqR.done ?_
        refine tn ?_
        refine CW.ret ?_
        refine tr ?_
        refine rr rfl (.cons rfl .nil) ?_
        have hM44 : (l_eqTable p_a p_b) = (false) := by simp only [l_eqTable, hb18, hb26, hb38, cond_true, cond_false, loopE_done, loopE_ret]
        rw [hM44]
        have q45 := Ex.trans (Ex.refl w) hE10
        have q46 := Ex.trans q45 hE16
        have q47 := Ex.trans q46 hE25
        have q48 := Ex.trans q47 hE37
        exact ⟨rfl, q48⟩
    · skip
      refine CW.cond_t rfl (not_f hb26) ?_
      refine CW.seq ?_
      refine CW.region ?_
      refine SeqR.d1 rfl rfl rfl (yl_assign rfl rfl ?_)
      refine SeqR.done ?_
      refine tn ?_
      refine CW.ret ?_
      refine tr ?_
      refine rr rfl (.cons rfl .nil) ?_
      have hM49 : (l_eqTable p_a p_b) = (false) := by simp only [l_eqTable, hb18, hb26, cond_true, cond_false, loopE_done, loopE_ret]
      rw [hM49]
      have q50 := Ex.trans (Ex.refl w) hE10
      have q51 := Ex.trans q50 hE16
      have q52 := Ex.trans q51 hE25
      exact ⟨rfl, q52⟩
  · skip
    refine CW.cond_t rfl (not_f hb18) ?_
    refine CW.seq ?_
    refine CW.region ?_
    refine SeqR.d1 rfl rfl rfl (yl_assign rfl rfl ?_)
    refine SeqR.done ?_
    refine tn ?_
    refine CW.ret ?_
    refine tr ?_
    refine rr rfl (.cons rfl .nil) ?_
    have hM53 : (l_eqTable p_a p_b) = (false) := by simp only [l_eqTable, hb18, cond_true, cond_false, loopE_done, loopE_ret]
    rw [hM53]
    have q54 := Ex.trans (Ex.refl w) hE10
    have q55 := Ex.trans q54 hE16
    exact ⟨rfl, q55⟩
set_option maxRecDepth 100000 in
set_option maxHeartbeats 2000000 in
theorem c_l_eqRow {A1 : Option Addr} {c1 : Nat} {A2 : Option Addr} {c2 : Nat} {w : World} (p_a : DRow) (p_b : DRow) (h1 : RdS w (Iv 0 w.heap.size) (RF e_Str) 1 A1 p_a.Vals.length c1 p_a.Vals) (h2 : RdS w (Iv 0 w.heap.size) (RF e_Str) 1 A2 p_b.Vals.length c2 p_b.Vals) : Cal Try.prog 49 #[.agg #[.slice A1 p_a.Vals.length c1], .agg #[.slice A2 p_b.Vals.length c2]] w fun v w' => v = .bool ((l_eqRow p_a p_b)) ∧ Ex w w' := by
  refine Cal.of (vs := [.agg #[.slice A1 p_a.Vals.length c1], .agg #[.slice A2 p_b.Vals.length c2]]) Try.func49 rfl Try.ntmps49 rfl ?_
  refine CW.seq ?_
  refine CW.region ?_
  refine SeqR.d1 rfl rfl rfl (yl_box (cs := [.slice A1 p_a.Vals.length c1]) rfl rfl rfl ?_)
  intro b3 w4 hs5 hz6 hB7 hE8
  refine SeqR.d1 rfl rfl rfl (yl_box (cs := [.slice A2 p_b.Vals.length c2]) rfl rfl rfl ?_)
  intro b9 w10 hs11 hz12 hB13 hE14
  refine SeqR.d1 rfl rfl rfl (yl_assign rfl rfl ?_)
  refine SeqR.done ?_
  refine tn ?_
  refine CW.seq ?_
  refine CW.seq ?_
  refine CW.region ?_
  refine SeqR.d1 rfl rfl rfl (yl_fieldAddr Try.fd86_0 rfl rfl ?_)
  have q15 := Box.ex hB7 hE14
  refine SeqR.d1 rfl rfl rfl (yl_load1 Try.ty73 rfl rfl ((q15.cell 0).trans rfl) ?_)
  refine SeqR.d1 rfl rfl rfl (yl_fieldAddr Try.fd86_0 rfl rfl ?_)
  refine SeqR.d1 rfl rfl rfl (yl_load1 Try.ty73 rfl rfl ((hB13.cell 0).trans rfl) ?_)
  have q16 := RdS.ex good_Str h1 hE8
  have q17 := RdS.ex good_Str q16 hE14
  have q18 := RdS.ex good_Str h2 hE8
  have q19 := RdS.ex good_Str q18 hE14
  refine SeqR.d1 rfl rfl rfl (yl_call Try.en97 rfl (opvs_cons rfl (opvs_cons rfl opvs_nil)) (Cal.mono (c_l_eqStringS p_a.Vals p_b.Vals (RdS.up q17 good_Str) (RdS.up q19 good_Str)) ?_))
  rintro v21 w20 ⟨rfl, hE22⟩
  have hE22z := Ex.size hE22
  refine SeqR.d1 rfl rfl rfl (yl_not rfl rfl ?_)
  refine SeqR.done ?_
  refine tn ?_
  refine bcase (l_eqStringS p_a.Vals p_b.Vals) (fun hb23 => ?_) (fun hb23 => ?_)
  · skip
    refine CW.cond_f rfl (not_t hb23) ?_
    refine CW.skip ?_
    refine tn ?_
    refine CW.seq ?_
    refine CW.region ?_
    refine SeqR.d1 rfl rfl rfl (yl_assign rfl rfl ?_)
    refine SeqR.done ?_
    refine tn ?_
    refine CW.ret ?_
    refine rr rfl (.cons rfl .nil) ?_
    have hM24 : (l_eqRow p_a p_b) = (true) := by simp only [l_eqRow, hb23, cond_true, cond_false, loopE_done, loopE_ret]
    rw [hM24]
    have q25 := Ex.trans (Ex.refl w) hE8
    have q26 := Ex.trans q25 hE14
    have q27 := Ex.trans q26 hE22
    exact ⟨rfl, q27⟩
  · skip
    refine CW.cond_t rfl (not_f hb23) ?_
    refine CW.seq ?_
    refine CW.region ?_
    refine SeqR.d1 rfl rfl rfl (yl_assign rfl rfl ?_)
    refine SeqR.done ?_
    refine tn ?_
    refine CW.ret ?_
    refine tr ?_
    refine rr rfl (.cons rfl .nil) ?_
    have hM28 : (l_eqRow p_a p_b) = (false) := by simp only [l_eqRow, hb23, cond_true, cond_false, loopE_done, loopE_ret]
    rw [hM28]
    have q29 := Ex.trans (Ex.refl w) hE8
    have q30 := Ex.trans q29 hE14
    have q31 := Ex.trans q30 hE22
    exact ⟨rfl, q31⟩
set_option maxRecDepth 100000 in
set_option maxHeartbeats 2000000 in
theorem c_l_FnExactGoodRow {A1 : Option Addr} {c1 : Nat} {A2 : Option Addr} {c2 : Nat} {A3 : Option Addr} {c3 : Nat} {w : World} (p_aT : DTable) (p_aR : DRow) (h1 : RdS w (Iv 0 w.heap.size) (RF e_Str) 1 A1 p_aT.Cols.length c1 p_aT.Cols) (h2 : RdS w (Iv 0 w.heap.size) (RF e_Idx) 3 A2 p_aT.Idxs.length c2 p_aT.Idxs) (h3 : RdS w (Iv 0 w.heap.size) (RF e_Str) 1 A3 p_aR.Vals.length c3 p_aR.Vals) (pre0 : wf_Table p_aT) (pre1 : wf_Row p_aR) : Cal Try.prog 12 #[.agg #[.string (bs (p_aT.Name)), .slice A1 p_aT.Cols.length c1, .slice A2 p_aT.Idxs.length c2], .agg #[.slice A3 p_aR.Vals.length c3]] w fun v w' => v = .bool ((l_FnExactGoodRow p_aT p_aR)) ∧ Ex w w' := by
  refine Cal.of (vs := [.agg #[.string (bs (p_aT.Name)), .slice A1 p_aT.Cols.length c1, .slice A2 p_aT.Idxs.length c2], .agg #[.slice A3 p_aR.Vals.length c3]]) Try.func12 rfl Try.ntmps12 rfl ?_
  refine CW.seq ?_
  refine CW.region ?_
  refine SeqR.d1 rfl rfl rfl (yl_box (cs := [.string (bs (p_aT.Name)), .slice A1 p_aT.Cols.length c1, .slice A2 p_aT.Idxs.length c2]) rfl rfl rfl ?_)
  intro b4 w5 hs6 hz7 hB8 hE9
  refine SeqR.d1 rfl rfl rfl (yl_box (cs := [.slice A3 p_aR.Vals.length c3]) rfl rfl rfl ?_)
  intro b10 w11 hs12 hz13 hB14 hE15
  refine SeqR.d1 rfl rfl rfl (yl_assign rfl rfl ?_)
  refine SeqR.done ?_
  refine tn ?_
  refine CW.seq ?_
  refine CW.region ?_
  refine SeqR.d1 rfl rfl rfl (yl_assign rfl rfl ?_)
  refine SeqR.done ?_
  refine tn ?_
  refine CW.seq ?_
  refine CW.region ?_
  have q16 := Box.ex hB8 hE15
  refine SeqR.d1 rfl rfl rfl (yl_loadN (cs := [.string (bs (p_aT.Name)), .slice A1 p_aT.Cols.length c1, .slice A2 p_aT.Idxs.length c2]) Try.ty76 rfl rfl (q16.cells (n := 3) rfl) rfl ?_)
  refine SeqR.d1 rfl rfl rfl (yl_move rfl rfl ?_)
  have q17 := RdS.ex good_Str h1 hE9
  have q18 := RdS.ex good_Str q17 hE15
  have q19 := RdS.ex good_Idx h2 hE9
  have q20 := RdS.ex good_Idx q19 hE15
  refine SeqR.d1 rfl rfl rfl (yl_call Try.en42 rfl (opvs_cons rfl (opvs_cons rfl opvs_nil)) (Cal.mono (c_l_szTable p_aT 1048576 (RdS.up q18 good_Str) (RdS.up q20 good_Idx)) ?_))
  rintro v22 w21 ⟨rfl, hE23⟩
  have hE23z := Ex.size hE23
  refine SeqR.d1 rfl rfl rfl (yl_assign rfl rfl ?_)
  refine SeqR.done ?_
  refine tn ?_
  refine CW.seq ?_
  refine CW.seq ?_
  refine CW.region ?_
  refine SeqR.d1 rfl rfl rfl (yl_move rfl rfl ?_)
  refine SeqR.d1 rfl rfl rfl (yl_lss rfl rfl rfl ?_)
  refine SeqR.done ?_
  refine tn ?_
  refine bcase (decide ((l_szTable p_aT 1048576) < 0)) (fun hb24 => ?_) (fun hb24 => ?_)
  · have hb24p := dec_t hb24
    refine CW.cond_t rfl hb24 ?_
    refine CW.seq ?_
    refine CW.region ?_
    refine SeqR.d1 rfl rfl rfl (yl_assign rfl rfl ?_)
    refine SeqR.done ?_
    refine tn ?_
    refine CW.ret ?_
    refine tr ?_
    refine rr rfl (.cons rfl .nil) ?_
    have hM25 : (l_FnExactGoodRow p_aT p_aR) = (true) := by simp only [l_FnExactGoodRow, hb24, cond_true, cond_false, loopE_done, loopE_ret]
    rw [hM25]
    have q26 := Ex.trans (Ex.refl w) hE9
    have q27 := Ex.trans q26 hE15
    have q28 := Ex.trans q27 hE23
    exact ⟨rfl, q28⟩
  · have hb24p := dec_f hb24
    refine CW.cond_f rfl hb24 ?_
    refine CW.skip ?_
    refine tn ?_
    refine CW.seq ?_
    refine CW.region ?_
    have q29 := Box.ex hB14 hE23
    refine SeqR.d1 rfl rfl rfl (yl_loadN (cs := [.slice A3 p_aR.Vals.length c3]) Try.ty78 rfl rfl (q29.cells (n := 1) rfl) rfl ?_)
    refine SeqR.d1 rfl rfl rfl (yl_move rfl rfl ?_)
    have q30 := RdS.ex good_Str h3 hE9
    have q31 := RdS.ex good_Str q30 hE15
    have q32 := RdS.ex good_Str q31 hE23
    refine SeqR.d1 rfl rfl rfl (yl_call Try.en43 rfl (opvs_cons rfl (opvs_cons rfl opvs_nil)) (Cal.mono (c_l_szRow p_aR (l_szTable p_aT 1048576) (RdS.up q32 good_Str)) ?_))
    rintro v34 w33 ⟨rfl, hE35⟩
    have hE35z := Ex.size hE35
    refine SeqR.d1 rfl rfl rfl (yl_assign rfl rfl ?_)
    refine SeqR.done ?_
    refine tn ?_
    refine CW.seq ?_
    refine CW.seq ?_
    refine CW.region ?_
    refine SeqR.d1 rfl rfl rfl (yl_move rfl rfl ?_)
    refine SeqR.d1 rfl rfl rfl (yl_lss rfl rfl rfl ?_)
    refine SeqR.done ?_
    refine tn ?_
    refine bcase (decide ((l_szRow p_aR (l_szTable p_aT 1048576)) < 0)) (fun hb36 => ?_) (fun hb36 => ?_)
    · have hb36p := dec_t hb36
      refine CW.cond_t rfl hb36 ?_
      refine CW.seq ?_
      refine CW.region ?_
      refine SeqR.d1 rfl rfl rfl (yl_assign rfl rfl ?_)
      refine SeqR.done ?_
      refine tn ?_
      refine CW.ret ?_
      refine tr ?_
      refine rr rfl (.cons rfl .nil) ?_
      have hM37 : (l_FnExactGoodRow p_aT p_aR) = (true) := by simp only [l_FnExactGoodRow, hb24, hb36, cond_true, cond_false, loopE_done, loopE_ret]
      rw [hM37]
      have q38 := Ex.trans (Ex.refl w) hE9
      have q39 := Ex.trans q38 hE15
      have q40 := Ex.trans q39 hE23
      have q41 := Ex.trans q40 hE35
      exact ⟨rfl, q41⟩
    · have hb36p := dec_f hb36
      refine CW.cond_f rfl hb36 ?_
      refine CW.skip ?_
      refine tn ?_
      refine CW.seq ?_
      have q42 := Box.ex q16 hE23
      have q43 := Box.ex q42 hE35
      have q44 := RdS.ex good_Str q18 hE23
      have q45 := RdS.ex good_Str q44 hE35
      have q46 := RdS.ex good_Idx q20 hE23
      have q47 := RdS.ex good_Idx q46 hE35
      have q51 := Box.ex q29 hE35
      have q52 := RdS.ex good_Str q32 hE35
      refine CW.drawsI 6 (vgetI [DetI (.agg #[.string (bs (p_aT.Name)), .slice A1 p_aT.Cols.length c1, .slice A2 p_aT.Idxs.length c2]), OpqI fun v w => ∃ A49 c49 A50 c50, v = .agg #[.string (bs (p_aT.Name)), .slice A49 p_aT.Cols.length c49, .slice A50 p_aT.Idxs.length c50] ∧ RdS w (Ge w33.heap.size) (RF e_Str) 1 A49 p_aT.Cols.length c49 p_aT.Cols ∧ RdS w (Ge w33.heap.size) (RF e_Idx) 3 A50 p_aT.Idxs.length c50 p_aT.Idxs, DetI (.agg #[.slice A3 p_aR.Vals.length c3]), OpqI fun v w => ∃ A54 c54, v = .agg #[.slice A54 p_aR.Vals.length c54] ∧ RdS w (Ge w33.heap.size) (RF e_Str) 1 A54 p_aR.Vals.length c54 p_aR.Vals, DetI (.bool ((s_GoodRow p_aT p_aR))), DetI (.bool ((s_GoodRow p_aT p_aR)))]) Try.follows rfl rfl rfl rfl rfl rfl (vgetI_stable ⟨StableI.det _, (fun _ _ _ _ _ ⟨A49, c49, A50, c50, hv, h49, h50⟩ e => ⟨A49, c49, A50, c50, hv, RdS.ex good_Str h49 e, RdS.ex good_Idx h50 e⟩), StableI.det _, (fun _ _ _ _ _ ⟨A54, c54, hv, h54⟩ e => ⟨A54, c54, hv, RdS.ex good_Str h54 e⟩), StableI.det _, StableI.det _, trivial⟩) ⟨?_, ?_, ?_, ?_, ?_, ?_, trivial⟩ ?_
      · intro L56 w57 hi58
        have hE59 := hi58.ex
        have hE59z := Ex.size hE59
        have hx60 := hi58.old 2 _ rfl rfl
        have q61 := Box.ex q43 hE59
        exact OpR.op' rfl (Yl.sameI (yl_loadN (cs := [.string (bs (p_aT.Name)), .slice A1 p_aT.Cols.length c1, .slice A2 p_aT.Idxs.length c2]) Try.ty76 rfl hx60 (q61.cells (n := 3) rfl) rfl ⟨fun _ _ => rfl, rfl⟩))
      · intro L62 w63 hi64
        have hE65 := hi64.ex
        have hE65z := Ex.size hE65
        obtain ⟨_, _, _, hx66, -, -, -, rfl⟩ := hi64.dep 0 20 rfl rfl
        have q67 := RdS.ex good_Str q45 hE65
        have q68 := RdS.ex good_Idx q47 hE65
        refine OpR.op' rfl (yl_call Try.en45 rfl (opvs_cons hx66 opvs_nil) (Cal.mono (c_l_toTable p_aT (RdS.up q67 good_Str) (RdS.up q68 good_Idx) ((szok_Table pre0 (by decide) (dec_f hb24)).1)) ?_))
        rintro v72 w69 ⟨A70, c70, A71, c71, rfl, h70, h71, hE73⟩
        exact ⟨⟨A70, c70, A71, c71, rfl, RdS.wide good_Str h70 (fun _ hh _ => Nat.le_trans hE65z hh.1), RdS.wide good_Idx h71 (fun _ hh _ => Nat.le_trans hE65z hh.1)⟩, hE73⟩
      · intro L74 w75 hi76
        have hE77 := hi76.ex
        have hE77z := Ex.size hE77
        have hx78 := hi76.old 3 _ rfl rfl
        have q79 := Box.ex q51 hE77
        exact OpR.op' rfl (Yl.sameI (yl_loadN (cs := [.slice A3 p_aR.Vals.length c3]) Try.ty78 rfl hx78 (q79.cells (n := 1) rfl) rfl ⟨fun _ _ => rfl, rfl⟩))
      · intro L80 w81 hi82
        have hE83 := hi82.ex
        have hE83z := Ex.size hE83
        obtain ⟨_, _, _, hx84, -, -, -, rfl⟩ := hi82.dep 2 22 rfl rfl
        have q85 := RdS.ex good_Str q52 hE83
        refine OpR.op' rfl (yl_call Try.en46 rfl (opvs_cons hx84 opvs_nil) (Cal.mono (c_l_toRow p_aR (RdS.up q85 good_Str) ((szok_Row pre1 (szok_Table pre0 (by decide) (dec_f hb24)).2 (dec_f hb36)).1)) ?_))
        rintro v88 w86 ⟨A87, c87, rfl, h87, hE89⟩
        exact ⟨⟨A87, c87, rfl, RdS.wide good_Str h87 (fun _ hh _ => Nat.le_trans hE83z hh.1)⟩, hE89⟩
      · intro L90 w91 hi92
        have hE93 := hi92.ex
        have hE93z := Ex.size hE93
        obtain ⟨_, _, _, hx94, -, -, -, A49_95, c49_96, A50_97, c50_98, rfl, h99, h100⟩ := hi92.dep 1 21 rfl rfl
        obtain ⟨_, _, _, hx101, -, -, -, A54_102, c54_103, rfl, h104⟩ := hi92.dep 3 23 rfl rfl
        refine OpR.op' rfl (yl_call Try.en44 rfl (opvs_cons hx94 (opvs_cons hx101 opvs_nil)) (Cal.mono (c_s_GoodRow p_aT p_aR (RdS.up h99 good_Str) (RdS.up h100 good_Idx) (RdS.up h104 good_Str) ((szok_Table pre0 (by decide) (dec_f hb24)).1) ((szok_Row pre1 (szok_Table pre0 (by decide) (dec_f hb24)).2 (dec_f hb36)).1)) ?_))
        rintro v106 w105 ⟨rfl, hE107⟩
        exact ⟨rfl, hE107⟩
      · intro L108 w109 hi110
        have hE111 := hi110.ex
        have hE111z := Ex.size hE111
        obtain ⟨_, _, _, hx112, -, -, -, rfl⟩ := hi110.dep 4 24 rfl rfl
        exact OpR.op' rfl (Yl.sameI (yl_assign rfl hx112 ⟨fun _ _ => rfl, rfl⟩))
      · intro fl116 fh117 L113 w114 hp115
        have hE118 := hp115.ex
        have hE118z := Ex.size hE118
        have hx119 := hp115.old 2 _ rfl rfl
        have hx120 := hp115.old 3 _ rfl rfl
        obtain ⟨_, hx121, rfl⟩ := hp115.new 5 6 rfl rfl
        refine SeqR.done ?_
        refine tn ?_
        refine CW.sub (Sub.cons (d := 2) hx119 (Sub.cons (d := 3) hx120 (Sub.cons (d := 6) hx121 (Sub.nil _)))) ?_
        refine CW.seq ?_
        refine CW.region ?_
        have q122 := Box.ex q43 hE118
        refine SeqR.d1 rfl rfl rfl (yl_loadN (cs := [.string (bs (p_aT.Name)), .slice A1 p_aT.Cols.length c1, .slice A2 p_aT.Idxs.length c2]) Try.ty76 rfl rfl (q122.cells (n := 3) rfl) rfl ?_)
        have q123 := RdS.ex good_Str q45 hE118
        have q124 := RdS.ex good_Idx q47 hE118
        refine SeqR.d1 rfl rfl rfl (yl_call Try.en45 rfl (opvs_cons rfl opvs_nil) (Cal.mono (c_l_toTable p_aT (RdS.up q123 good_Str) (RdS.up q124 good_Idx) ((szok_Table pre0 (by decide) (dec_f hb24)).1)) ?_))
        rintro v128 w125 ⟨A126, c126, A127, c127, rfl, h126, h127, hE129⟩
        have hE129z := Ex.size hE129
        refine SeqR.d1 rfl rfl rfl (yl_alloc Try.ty84 (cs := [.string (bs (([] : Str))), .slice none 0 0, .slice none 0 0]) rfl rfl ?_)
        intro b130 w131 hs132 hz133 hB134 hE135
        refine SeqR.u rfl rfl (yl_store (vs := [.string (bs (p_aT.Name)), .slice A126 p_aT.Cols.length c126, .slice A127 p_aT.Idxs.length c127]) Try.ty84 rfl rfl rfl rfl rfl rfl hB134 (Nat.le_of_ble_eq_true rfl) ?_)
        intro w136 hB137 hO138
        have hB137 : Box w136 b130 84 [.string (bs (p_aT.Name)), .slice A126 p_aT.Cols.length c126, .slice A127 p_aT.Idxs.length c127] := hB137
        have hO138z := hO138.size
        refine SeqR.done ?_
        refine tn ?_
        refine CW.seq ?_
        refine CW.region ?_
        have q139 := Box.ex q51 hE118
        have q140 := Box.ex q139 hE129
        have q141 := Box.ex q140 hE135
        have q142 := Box.only q141 hO138 (by omega)
        refine SeqR.d1 rfl rfl rfl (yl_loadN (cs := [.slice A3 p_aR.Vals.length c3]) Try.ty78 rfl rfl (q142.cells (n := 1) rfl) rfl ?_)
        have q143 := RdS.ex good_Str q52 hE118
        have q144 := RdS.ex good_Str q143 hE129
        have q145 := RdS.ex good_Str q144 hE135
        have q146 := RdS.only good_Str q145 hO138 (by simp only [Iv]; omega)
        refine SeqR.d1 rfl rfl rfl (yl_call Try.en46 rfl (opvs_cons rfl opvs_nil) (Cal.mono (c_l_toRow p_aR (RdS.up q146 good_Str) ((szok_Row pre1 (szok_Table pre0 (by decide) (dec_f hb24)).2 (dec_f hb36)).1)) ?_))
        rintro v149 w147 ⟨A148, c148, rfl, h148, hE150⟩
        have hE150z := Ex.size hE150
        refine SeqR.d1 rfl rfl rfl (yl_alloc Try.ty86 (cs := [.slice none 0 0]) rfl rfl ?_)
        intro b151 w152 hs153 hz154 hB155 hE156
        refine SeqR.u rfl rfl (yl_store (vs := [.slice A148 p_aR.Vals.length c148]) Try.ty86 rfl rfl rfl rfl rfl rfl hB155 (Nat.le_of_ble_eq_true rfl) ?_)
        intro w157 hB158 hO159
        have hB158 : Box w157 b151 86 [.slice A148 p_aR.Vals.length c148] := hB158
        have hO159z := hO159.size
        refine SeqR.done ?_
        refine tn ?_
        refine CW.seq ?_
        refine CW.region ?_
        have q160 := Box.ex hB137 hE150
        have q161 := Box.ex q160 hE156
        have q162 := Box.only q161 hO159 (by omega)
        refine SeqR.d1 rfl rfl rfl (yl_loadN (cs := [.string (bs (p_aT.Name)), .slice A126 p_aT.Cols.length c126, .slice A127 p_aT.Idxs.length c127]) Try.ty84 rfl rfl (q162.cells (n := 3) rfl) rfl ?_)
        refine SeqR.d1 rfl rfl rfl (yl_loadN (cs := [.slice A148 p_aR.Vals.length c148]) Try.ty86 rfl rfl (hB158.cells (n := 1) rfl) rfl ?_)
        have q163 := RdS.ex good_Str h126 hE135
        have q164 := RdS.only good_Str q163 hO138 (by simp only [Iv]; omega)
        have q165 := RdS.ex good_Str q164 hE150
        have q166 := RdS.ex good_Str q165 hE156
        have q167 := RdS.only good_Str q166 hO159 (by simp only [Iv]; omega)
        have q168 := RdS.ex good_Idx h127 hE135
        have q169 := RdS.only good_Idx q168 hO138 (by simp only [Iv]; omega)
        have q170 := RdS.ex good_Idx q169 hE150
        have q171 := RdS.ex good_Idx q170 hE156
        have q172 := RdS.only good_Idx q171 hO159 (by simp only [Iv]; omega)
        have q173 := RdS.ex good_Str h148 hE156
        have q174 := RdS.only good_Str q173 hO159 (by simp only [Iv]; omega)
        refine SeqR.d1 rfl rfl rfl (yl_call Try.en47 rfl (opvs_cons rfl (opvs_cons rfl opvs_nil)) (Cal.mono (c_i_GoodRow p_aT p_aR (RdS.up q167 good_Str) (RdS.up q172 good_Idx) (RdS.up q174 good_Str) ((szok_Table pre0 (by decide) (dec_f hb24)).1) ((szok_Row pre1 (szok_Table pre0 (by decide) (dec_f hb24)).2 (dec_f hb36)).1)) ?_))
        rintro v176 w175 ⟨rfl, hE177⟩
        have hE177z := Ex.size hE177
        refine SeqR.d1 rfl rfl rfl (yl_assign rfl rfl ?_)
        refine SeqR.done ?_
        refine tn ?_
        refine CW.seq ?_
        refine CW.seq ?_
        refine CW.region ?_
        refine SeqR.d1 rfl rfl rfl (yl_move rfl rfl ?_)
        refine SeqR.d1 rfl rfl rfl (yl_move rfl rfl ?_)
        refine SeqR.d1 rfl rfl rfl (yl_bneq Try.un4 rfl rfl rfl ?_)
        refine SeqR.done ?_
        refine tn ?_
        refine bcase ((i_GoodRow p_aT p_aR) == (s_GoodRow p_aT p_aR)) (fun hb178 => ?_) (fun hb178 => ?_)
        · skip
          refine CW.cond_f rfl (not_t hb178) ?_
          refine CW.skip ?_
          refine tn ?_
          refine CW.seq ?_
          refine CW.seq ?_
          have q179 := Box.ex q162 hE177
          have q180 := Box.ex q122 hE129
          have q181 := Box.ex q180 hE135
          have q182 := Box.only q181 hO138 (by omega)
          have q183 := Box.ex q182 hE150
          have q184 := Box.ex q183 hE156
          have q185 := Box.only q184 hO159 (by omega)
          have q186 := Box.ex q185 hE177
          have q187 := RdS.ex good_Str q123 hE129
          have q188 := RdS.ex good_Str q187 hE135
          have q189 := RdS.only good_Str q188 hO138 (by simp only [Iv]; omega)
          have q190 := RdS.ex good_Str q189 hE150
          have q191 := RdS.ex good_Str q190 hE156
          have q192 := RdS.only good_Str q191 hO159 (by simp only [Iv]; omega)
          have q193 := RdS.ex good_Str q192 hE177
          have q194 := RdS.ex good_Idx q124 hE129
          have q195 := RdS.ex good_Idx q194 hE135
          have q196 := RdS.only good_Idx q195 hO138 (by simp only [Iv]; omega)
          have q197 := RdS.ex good_Idx q196 hE150
          have q198 := RdS.ex good_Idx q197 hE156
          have q199 := RdS.only good_Idx q198 hO159 (by simp only [Iv]; omega)
          have q200 := RdS.ex good_Idx q199 hE177
          have q204 := RdS.ex good_Str q167 hE177
          have q205 := RdS.ex good_Idx q172 hE177
          refine CW.drawsI 5 (vgetI [DetI (.agg #[.string (bs (p_aT.Name)), .slice A126 p_aT.Cols.length c126, .slice A127 p_aT.Idxs.length c127]), DetI (.agg #[.string (bs (p_aT.Name)), .slice A1 p_aT.Cols.length c1, .slice A2 p_aT.Idxs.length c2]), OpqI fun v w => ∃ A202 c202 A203 c203, v = .agg #[.string (bs (p_aT.Name)), .slice A202 p_aT.Cols.length c202, .slice A203 p_aT.Idxs.length c203] ∧ RdS w (Ge w175.heap.size) (RF e_Str) 1 A202 p_aT.Cols.length c202 p_aT.Cols ∧ RdS w (Ge w175.heap.size) (RF e_Idx) 3 A203 p_aT.Idxs.length c203 p_aT.Idxs, DetI (.bool ((l_eqTable p_aT p_aT))), DetI (.bool (!(l_eqTable p_aT p_aT)))]) Try.follows rfl rfl rfl rfl rfl rfl (vgetI_stable ⟨StableI.det _, StableI.det _, (fun _ _ _ _ _ ⟨A202, c202, A203, c203, hv, h202, h203⟩ e => ⟨A202, c202, A203, c203, hv, RdS.ex good_Str h202 e, RdS.ex good_Idx h203 e⟩), StableI.det _, StableI.det _, trivial⟩) ⟨?_, ?_, ?_, ?_, ?_, trivial⟩ ?_
          · intro L207 w208 hi209
            have hE210 := hi209.ex
            have hE210z := Ex.size hE210
            have hx211 := hi209.old 7 _ rfl rfl
            have q212 := Box.ex q179 hE210
            exact OpR.op' rfl (Yl.sameI (yl_loadN (cs := [.string (bs (p_aT.Name)), .slice A126 p_aT.Cols.length c126, .slice A127 p_aT.Idxs.length c127]) Try.ty84 rfl hx211 (q212.cells (n := 3) rfl) rfl ⟨fun _ _ => rfl, rfl⟩))
          · intro L213 w214 hi215
            have hE216 := hi215.ex
            have hE216z := Ex.size hE216
            have hx217 := hi215.old 2 _ rfl rfl
            have q218 := Box.ex q186 hE216
            exact OpR.op' rfl (Yl.sameI (yl_loadN (cs := [.string (bs (p_aT.Name)), .slice A1 p_aT.Cols.length c1, .slice A2 p_aT.Idxs.length c2]) Try.ty76 rfl hx217 (q218.cells (n := 3) rfl) rfl ⟨fun _ _ => rfl, rfl⟩))
          · intro L219 w220 hi221
            have hE222 := hi221.ex
            have hE222z := Ex.size hE222
            obtain ⟨_, _, _, hx223, -, -, -, rfl⟩ := hi221.dep 1 36 rfl rfl
            have q224 := RdS.ex good_Str q193 hE222
            have q225 := RdS.ex good_Idx q200 hE222
            refine OpR.op' rfl (yl_call Try.en45 rfl (opvs_cons hx223 opvs_nil) (Cal.mono (c_l_toTable p_aT (RdS.up q224 good_Str) (RdS.up q225 good_Idx) ((szok_Table pre0 (by decide) (dec_f hb24)).1)) ?_))
            rintro v229 w226 ⟨A227, c227, A228, c228, rfl, h227, h228, hE230⟩
            exact ⟨⟨A227, c227, A228, c228, rfl, RdS.wide good_Str h227 (fun _ hh _ => Nat.le_trans hE222z hh.1), RdS.wide good_Idx h228 (fun _ hh _ => Nat.le_trans hE222z hh.1)⟩, hE230⟩
          · intro L231 w232 hi233
            have hE234 := hi233.ex
            have hE234z := Ex.size hE234
            obtain ⟨_, _, _, hx235, -, -, -, rfl⟩ := hi233.dep 0 35 rfl rfl
            obtain ⟨_, _, _, hx236, -, -, -, A202_237, c202_238, A203_239, c203_240, rfl, h241, h242⟩ := hi233.dep 2 37 rfl rfl
            have q243 := RdS.ex good_Str q204 hE234
            have q244 := RdS.ex good_Idx q205 hE234
            refine OpR.op' rfl (yl_call Try.en48 rfl (opvs_cons hx235 (opvs_cons hx236 opvs_nil)) (Cal.mono (c_l_eqTable p_aT p_aT (RdS.up q243 good_Str) (RdS.up q244 good_Idx) (RdS.up h241 good_Str) (RdS.up h242 good_Idx)) ?_))
            rintro v246 w245 ⟨rfl, hE247⟩
            exact ⟨rfl, hE247⟩
          · intro L248 w249 hi250
            have hE251 := hi250.ex
            have hE251z := Ex.size hE251
            obtain ⟨_, _, _, hx252, -, -, -, rfl⟩ := hi250.dep 3 38 rfl rfl
            exact OpR.op' rfl (Yl.sameI (yl_not rfl hx252 ⟨fun _ _ => rfl, rfl⟩))
          · intro fl256 fh257 L253 w254 hp255
            have hE258 := hp255.ex
            have hE258z := Ex.size hE258
            have hx259 := hp255.old 3 _ rfl rfl
            have hx260 := hp255.old 8 _ rfl rfl
            obtain ⟨_, hx261, rfl⟩ := hp255.new 4 39 rfl rfl
            refine SeqR.done ?_
            refine tn ?_
            refine CW.sub (Sub.cons (d := 3) hx259 (Sub.cons (d := 8) hx260 (Sub.cons (d := 39) hx261 (Sub.nil _)))) ?_
            refine bcase (l_eqTable p_aT p_aT) (fun hb262 => ?_) (fun hb262 => ?_)
            · skip
              refine CW.cond_f rfl (not_t hb262) ?_
              refine CW.skip ?_
              refine tn ?_
              refine CW.seq ?_
              refine CW.seq ?_
              have q263 := Box.ex hB158 hE177
              have q264 := Box.ex q263 hE258
              have q265 := Box.ex q142 hE150
              have q266 := Box.ex q265 hE156
              have q267 := Box.only q266 hO159 (by omega)
              have q268 := Box.ex q267 hE177
              have q269 := Box.ex q268 hE258
              have q270 := RdS.ex good_Str q146 hE150
              have q271 := RdS.ex good_Str q270 hE156
              have q272 := RdS.only good_Str q271 hO159 (by simp only [Iv]; omega)
              have q273 := RdS.ex good_Str q272 hE177
              have q274 := RdS.ex good_Str q273 hE258
              have q277 := RdS.ex good_Str q174 hE177
              have q278 := RdS.ex good_Str q277 hE258
              refine CW.drawsI 5 (vgetI [DetI (.agg #[.slice A148 p_aR.Vals.length c148]), DetI (.agg #[.slice A3 p_aR.Vals.length c3]), OpqI fun v w => ∃ A276 c276, v = .agg #[.slice A276 p_aR.Vals.length c276] ∧ RdS w (Ge w254.heap.size) (RF e_Str) 1 A276 p_aR.Vals.length c276 p_aR.Vals, DetI (.bool ((l_eqRow p_aR p_aR))), DetI (.bool (!(l_eqRow p_aR p_aR)))]) Try.follows rfl rfl rfl rfl rfl rfl (vgetI_stable ⟨StableI.det _, StableI.det _, (fun _ _ _ _ _ ⟨A276, c276, hv, h276⟩ e => ⟨A276, c276, hv, RdS.ex good_Str h276 e⟩), StableI.det _, StableI.det _, trivial⟩) ⟨?_, ?_, ?_, ?_, ?_, trivial⟩ ?_
              · intro L280 w281 hi282
                have hE283 := hi282.ex
                have hE283z := Ex.size hE283
                have hx284 := hi282.old 8 _ rfl rfl
                have q285 := Box.ex q264 hE283
                exact OpR.op' rfl (Yl.sameI (yl_loadN (cs := [.slice A148 p_aR.Vals.length c148]) Try.ty86 rfl hx284 (q285.cells (n := 1) rfl) rfl ⟨fun _ _ => rfl, rfl⟩))
              · intro L286 w287 hi288
                have hE289 := hi288.ex
                have hE289z := Ex.size hE289
                have hx290 := hi288.old 3 _ rfl rfl
                have q291 := Box.ex q269 hE289
                exact OpR.op' rfl (Yl.sameI (yl_loadN (cs := [.slice A3 p_aR.Vals.length c3]) Try.ty78 rfl hx290 (q291.cells (n := 1) rfl) rfl ⟨fun _ _ => rfl, rfl⟩))
              · intro L292 w293 hi294
                have hE295 := hi294.ex
                have hE295z := Ex.size hE295
                obtain ⟨_, _, _, hx296, -, -, -, rfl⟩ := hi294.dep 1 41 rfl rfl
                have q297 := RdS.ex good_Str q274 hE295
                refine OpR.op' rfl (yl_call Try.en46 rfl (opvs_cons hx296 opvs_nil) (Cal.mono (c_l_toRow p_aR (RdS.up q297 good_Str) ((szok_Row pre1 (szok_Table pre0 (by decide) (dec_f hb24)).2 (dec_f hb36)).1)) ?_))
                rintro v300 w298 ⟨A299, c299, rfl, h299, hE301⟩
                exact ⟨⟨A299, c299, rfl, RdS.wide good_Str h299 (fun _ hh _ => Nat.le_trans hE295z hh.1)⟩, hE301⟩
              · intro L302 w303 hi304
                have hE305 := hi304.ex
                have hE305z := Ex.size hE305
                obtain ⟨_, _, _, hx306, -, -, -, rfl⟩ := hi304.dep 0 40 rfl rfl
                obtain ⟨_, _, _, hx307, -, -, -, A276_308, c276_309, rfl, h310⟩ := hi304.dep 2 42 rfl rfl
                have q311 := RdS.ex good_Str q278 hE305
                refine OpR.op' rfl (yl_call Try.en49 rfl (opvs_cons hx306 (opvs_cons hx307 opvs_nil)) (Cal.mono (c_l_eqRow p_aR p_aR (RdS.up q311 good_Str) (RdS.up h310 good_Str)) ?_))
                rintro v313 w312 ⟨rfl, hE314⟩
                exact ⟨rfl, hE314⟩
              · intro L315 w316 hi317
                have hE318 := hi317.ex
                have hE318z := Ex.size hE318
                obtain ⟨_, _, _, hx319, -, -, -, rfl⟩ := hi317.dep 3 43 rfl rfl
                exact OpR.op' rfl (Yl.sameI (yl_not rfl hx319 ⟨fun _ _ => rfl, rfl⟩))
              · intro fl323 fh324 L320 w321 hp322
                have hE325 := hp322.ex
                have hE325z := Ex.size hE325
                obtain ⟨_, hx326, rfl⟩ := hp322.new 4 44 rfl rfl
                refine SeqR.done ?_
                refine tn ?_
                refine CW.sub (Sub.cons (d := 44) hx326 (Sub.nil _)) ?_
                refine bcase (l_eqRow p_aR p_aR) (fun hb327 => ?_) (fun hb327 => ?_)
                · skip
                  refine CW.cond_f rfl (not_t hb327) ?_
                  refine CW.skip ?_
                  refine tn ?_
                  refine CW.seq ?_
                  refine CW.region ?_
                  refine SeqR.d1 rfl rfl rfl (yl_assign rfl rfl ?_)
                  refine SeqR.done ?_
                  refine tn ?_
                  refine CW.ret ?_
                  refine rr rfl (.cons rfl .nil) ?_
                  have hM328 : (l_FnExactGoodRow p_aT p_aR) = (true) := by simp only [l_FnExactGoodRow, hb24, hb36, hb178, hb262, hb327, cond_true, cond_false, loopE_done, loopE_ret]
                  rw [hM328]
                  have q329 := Ex.trans (Ex.refl w) hE9
                  have q330 := Ex.trans q329 hE15
                  have q331 := Ex.trans q330 hE23
                  have q332 := Ex.trans q331 hE35
                  have q333 := Ex.trans q332 hE118
                  have q334 := Ex.trans q333 hE129
                  have q335 := Ex.trans q334 hE135
                  have q336 := Below.only q335 hO138 (by omega)
                  have q337 := Ex.trans q336 hE150
                  have q338 := Ex.trans q337 hE156
                  have q339 := Below.only q338 hO159 (by omega)
                  have q340 := Ex.trans q339 hE177
                  have q341 := Ex.trans q340 hE258
                  have q342 := Ex.trans q341 hE325
                  exact ⟨rfl, q342⟩
                · skip
                  refine CW.cond_t rfl (not_f hb327) ?_
                  refine CW.seq ?_
                  refine CW.region ?_
                  refine SeqR.d1 rfl rfl rfl (yl_assign rfl rfl ?_)
                  refine SeqR.done ?_
                  refine tn ?_
                  refine CW.ret ?_
                  refine tr ?_
                  refine rr rfl (.cons rfl .nil) ?_
                  have hM343 : (l_FnExactGoodRow p_aT p_aR) = (false) := by simp only [l_FnExactGoodRow, hb24, hb36, hb178, hb262, hb327, cond_true, cond_false, loopE_done, loopE_ret]
                  rw [hM343]
                  have q344 := Ex.trans (Ex.refl w) hE9
                  have q345 := Ex.trans q344 hE15
                  have q346 := Ex.trans q345 hE23
                  have q347 := Ex.trans q346 hE35
                  have q348 := Ex.trans q347 hE118
                  have q349 := Ex.trans q348 hE129
                  have q350 := Ex.trans q349 hE135
                  have q351 := Below.only q350 hO138 (by omega)
                  have q352 := Ex.trans q351 hE150
                  have q353 := Ex.trans q352 hE156
                  have q354 := Below.only q353 hO159 (by omega)
                  have q355 := Ex.trans q354 hE177
                  have q356 := Ex.trans q355 hE258
                  have q357 := Ex.trans q356 hE325
                  exact ⟨rfl, q357⟩
            · skip
              refine CW.cond_t rfl (not_f hb262) ?_
              refine CW.seq ?_
              refine CW.region ?_
              refine SeqR.d1 rfl rfl rfl (yl_assign rfl rfl ?_)
              refine SeqR.done ?_
              refine tn ?_
              refine CW.ret ?_
              refine tr ?_
              refine rr rfl (.cons rfl .nil) ?_
              have hM358 : (l_FnExactGoodRow p_aT p_aR) = (false) := by simp only [l_FnExactGoodRow, hb24, hb36, hb178, hb262, cond_true, cond_false, loopE_done, loopE_ret]
              rw [hM358]
              have q359 := Ex.trans (Ex.refl w) hE9
              have q360 := Ex.trans q359 hE15
              have q361 := Ex.trans q360 hE23
              have q362 := Ex.trans q361 hE35
              have q363 := Ex.trans q362 hE118
              have q364 := Ex.trans q363 hE129
              have q365 := Ex.trans q364 hE135
              have q366 := Below.only q365 hO138 (by omega)
              have q367 := Ex.trans q366 hE150
              have q368 := Ex.trans q367 hE156
              have q369 := Below.only q368 hO159 (by omega)
              have q370 := Ex.trans q369 hE177
              have q371 := Ex.trans q370 hE258
              exact ⟨rfl, q371⟩
        · skip
          refine CW.cond_t rfl (not_f hb178) ?_
          refine CW.seq ?_
          refine CW.region ?_
          refine SeqR.d1 rfl rfl rfl (yl_assign rfl rfl ?_)
          refine SeqR.done ?_
          refine tn ?_
          refine CW.ret ?_
          refine tr ?_
          refine rr rfl (.cons rfl .nil) ?_
          have hM372 : (l_FnExactGoodRow p_aT p_aR) = (false) := by simp only [l_FnExactGoodRow, hb24, hb36, hb178, cond_true, cond_false, loopE_done, loopE_ret]
          rw [hM372]
          have q373 := Ex.trans (Ex.refl w) hE9
          have q374 := Ex.trans q373 hE15
          have q375 := Ex.trans q374 hE23
          have q376 := Ex.trans q375 hE35
          have q377 := Ex.trans q376 hE118
          have q378 := Ex.trans q377 hE129
          have q379 := Ex.trans q378 hE135
          have q380 := Below.only q379 hO138 (by omega)
          have q381 := Ex.trans q380 hE150
          have q382 := Ex.trans q381 hE156
          have q383 := Below.only q382 hO159 (by omega)
          have q384 := Ex.trans q383 hE177
          exact ⟨rfl, q384⟩
end Go.Proofs.Ytnfjabkdlkejkaa
