/- Stmt Ops: what each call returns, part 5. -/
import Derived.Test.YtjeafbkejeallaaStmtOpsC4
set_option linter.unusedVariables false
set_option linter.unusedSimpArgs false
namespace Go.Proofs.Ytjeafbkejeallaa
open Go.RowKit Go.X
set_option maxRecDepth 100000 in
set_option maxHeartbeats 2000000 in
theorem c_i_GoodTable {A1 : Option Addr} {c1 : Nat} {A2 : Option Addr} {c2 : Nat} {w : World} (p_0 : DTable) (h1 : RdS w (Iv 0 w.heap.size) (RF e_Str) 1 A1 p_0.Cols.length c1 p_0.Cols) (h2 : RdS w (Iv 0 w.heap.size) (RF e_Idx) 3 A2 p_0.Idxs.length c2 p_0.Idxs) (o3 : ok_Table p_0) : Cal Try.prog 166 #[.agg #[.string (bs (p_0.Name)), .slice A1 p_0.Cols.length c1, .slice A2 p_0.Idxs.length c2]] w fun v w' => v = .bool ((i_GoodTable p_0)) ∧ Ex w w' := by
 have hol4 : p_0.Name.length ≤ 1073741824 := o3.1
 have hol5 := o3.2.1.1
 have hol6 := o3.2.2.1
 refine Cal.of (vs := [.agg #[.string (bs (p_0.Name)), .slice A1 p_0.Cols.length c1, .slice A2 p_0.Idxs.length c2]]) Try.func166 rfl Try.ntmps166 rfl (CW.seq (CW.region (sd rfl (yl_box (cs := [.string (bs (p_0.Name)), .slice A1 p_0.Cols.length c1, .slice A2 p_0.Idxs.length c2]) rfl rfl rfl ?_))))
 intro b7 w8 hs9 hz10 hB11 hE12
 refine sd rfl (yl_assign rfl rfl (SeqR.done (tn (CW.seq (CW.seq (CW.region (sd rfl (yl_fieldAddr Try.fd65_0 rfl rfl (sd rfl (yl_load1 Try.ty9 rfl rfl ((hB11.cell 0).trans rfl) (sd rfl (yl_call Try.en210 rfl (opvs_cons rfl (opvs_cons rfl opvs_nil)) (Cal.mono (c_i_areLetters p_0.Name 1 o3.1) ?_)))))))))))))
 rintro v14 w13 ⟨rfl, hE15⟩
 have hE15z := Ex.size hE15
 refine sd rfl (yl_not rfl rfl (sd rfl (yl_move rfl rfl (bcase (i_areLetters p_0.Name 1) (fun hb16 => ?_) (fun hb16 => ?_)))))
 ·refine sy rfl rfl (not_t hb16) (yl_fieldAddr Try.fd65_1 rfl rfl ?_)
  have q17 := Box.ex hB11 hE15
  refine sy rfl rfl (not_t hb16) (yl_load1 Try.ty52 rfl rfl ((q17.cell 1).trans rfl) (sy rfl rfl (not_t hb16) (yl_len Try.un52 rfl rfl (sy rfl rfl (not_t hb16) (yl_call Try.en142 rfl (opvs_cons rfl (opvs_cons rfl (opvs_cons rfl opvs_nil))) (Cal.mono (c_i_within (p_0.Cols.length : Int) 2 4) ?_))))))
  rintro v19 w18 ⟨rfl, hE20⟩
  have hE20z := Ex.size hE20
  refine sy rfl rfl (not_t hb16) (yl_not rfl rfl (sd rfl (yl_pick_f rfl rfl (not_t hb16) rfl (sd rfl (yl_move rfl rfl (bcase (i_within (p_0.Cols.length : Int) 2 4) (fun hb21 => ?_) (fun hb21 => ?_)))))))
  ·have hb21p := f_within hb21
   refine sy rfl rfl (not_t hb21) (yl_fieldAddr Try.fd65_2 rfl rfl ?_)
   have q22 := Box.ex q17 hE20
   refine sy rfl rfl (not_t hb21) (yl_load1 Try.ty63 rfl rfl ((q22.cell 2).trans rfl) (sy rfl rfl (not_t hb21) (yl_len Try.un63 rfl rfl (sy rfl rfl (not_t hb21) (yl_gtr rfl rfl rfl (sd rfl (yl_pick_f rfl rfl (not_t hb21) rfl (SeqR.done (tn (bcase (decide (3 < (p_0.Idxs.length : Int))) (fun hb23 => ?_) (fun hb23 => ?_)))))))))))
   ·have hb23p := dec_t hb23
    refine CW.cond_t rfl hb23 (CW.seq (CW.region (sd rfl (yl_assign rfl rfl (SeqR.done (tn (CW.ret (tr (rr rfl (.cons rfl .nil) ?_)))))))))
    have hM24 : (i_GoodTable p_0) = (false) := by simp only [i_GoodTable, hb16, hb21, hb23, cond_true, cond_false, loopE_done, loopE_ret]
    rw [hM24]
    exact ⟨rfl, (Ex.trans (Ex.trans (Ex.trans (Ex.refl w) hE12) hE15) hE20)⟩
   ·have hb23p := dec_f hb23
    refine CW.cond_f rfl hb23 (CW.skip (tn (CW.seq (CW.seq (CW.region (sd rfl (yl_fieldAddr Try.fd65_1 rfl rfl (sd rfl (yl_load1 Try.ty52 rfl rfl ((q22.cell 1).trans rfl) (sd rfl (yl_len Try.un52 rfl rfl ?_)))))))))))
    refine sd rfl (yl_move rfl rfl (SeqR.done (tn (CW.block (CW.loop (fun m29 L30 w31 => ∃ (k28 : Nat), m29 = p_0.Cols.length - k28 ∧ k28 ≤ p_0.Cols.length ∧ w18.heap.size ≤ w31.heap.size ∧ lkp L30 1 = some (.pointer (some ⟨b7, 0, none⟩)) ∧ lkp L30 25 = some (.slice A1 p_0.Cols.length c1) ∧ lkp L30 26 = some (.int .i64 ((p_0.Cols.length : Int))) ∧ lkp L30 27 = some (.int .i64 ((k28 : Int))) ∧ Box w31 b7 65 [.string (bs (p_0.Name)), .slice A1 p_0.Cols.length c1, .slice A2 p_0.Idxs.length c2] ∧ RdS w31 (Iv 0 w.heap.size) (RF e_Str) 1 A1 p_0.Cols.length c1 p_0.Cols ∧ RdS w31 (Iv 0 w.heap.size) (RF e_Idx) 3 A2 p_0.Idxs.length c2 p_0.Idxs ∧ Ex w w31 ∧ loopM (B_i_GoodTable_0 p_0) (p_0.Cols.length - k28) k28 () = loopM (B_i_GoodTable_0 p_0) (p_0.Cols.length - 0) 0 ()) (p_0.Cols.length - 0) ?_ ?_)))))
    ·exact ⟨0, rfl, (by omega), Nat.le_refl _, rfl, rfl, rfl, rfl, q22, (RdS.ex good_Str (RdS.ex good_Str (RdS.ex good_Str h1 hE12) hE15) hE20), (RdS.ex good_Idx (RdS.ex good_Idx (RdS.ex good_Idx h2 hE12) hE15) hE20), (Ex.trans (Ex.trans (Ex.trans (Ex.refl w) hE12) hE15) hE20), rfl⟩
    ·rintro m41 L42 w43 ⟨k28, rfl, hk44, hsz46, hl47, hl48, hl49, hl50, hf51, hf52, hf53, hf54, hI45⟩
     refine CW.sub (Sub.cons hl47 (Sub.cons hl48 (Sub.cons hl49 (Sub.cons hl50 (Sub.nil _))))) ?_
     have hf51z := Box.lt hf51
     have hf54z := Ex.size hf54
     have hbg55 := RdS.big hf52
     rcases Nat.lt_or_ge k28 p_0.Cols.length with hlt56 | hlt56
     ·refine CW.seq (CW.region (sd rfl (yl_lss rfl rfl rfl (SeqR.done (tn (CW.seq (CW.cond_t rfl (lt_t hlt56) (CW.skip (tn ?_)))))))))
      refine CW.seq (CW.block (CW.seq (CW.region (sd rfl (yl_move rfl rfl ?_)))))
      obtain ⟨eb57, eo57, ec57, eA57, eS57, ebl57, el57, eR57, eC57⟩ := RdS.atD hf52 d_Str (i := k28) (by first | omega | assumption)
      obtain rfl := eR57
      have eC57 : Cells w43 eb57 (eo57 + k28 * 1) [.string (bs ((p_0.Cols.getD k28 d_Str)))] := eC57
      refine sd rfl (yl_indexAddrN Try.un52 Try.ty9 rfl rfl rfl eA57 (by first | omega | assumption | (simp only [IntKind.wrap_i64] at *; omega)) (sd rfl (yl_load1 Try.ty9 rfl rfl (eC57 0 _ rfl) (sd rfl (yl_assign rfl rfl (sd rfl (yl_assign rfl rfl (SeqR.done (tn (CW.seq (CW.region (sd rfl (yl_move rfl rfl ?_)))))))))))))
      refine sd rfl (yl_call Try.en210 rfl (opvs_cons rfl (opvs_cons rfl opvs_nil)) (Cal.mono (c_i_areLetters (p_0.Cols.getD k28 d_Str) 3 (okL.getD o3.2.1 ok_d_Str _)) ?_))
      rintro v59 w58 ⟨rfl, hE60⟩
      have hE60z := Ex.size hE60
      refine sd rfl (yl_not rfl rfl (sd rfl (yl_move rfl rfl (bcase (i_areLetters (p_0.Cols.getD k28 d_Str) 3) (fun hb61 => ?_) (fun hb61 => ?_)))))
      ·refine sy rfl rfl (not_t hb61) (yl_fieldAddr Try.fd65_1 rfl rfl ?_)
       have q62 := Box.ex hf51 hE60
       refine sy rfl rfl (not_t hb61) (yl_load1 Try.ty52 rfl rfl ((q62.cell 1).trans rfl) (sy rfl rfl (not_t hb61) (yl_move rfl rfl ?_)))
       have q63 := RdS.ex good_Str hf52 hE60
       obtain ⟨A64, c65, he68, h67⟩ := RdS.sl (RdS.drop (RdS.take q63 (k := k28) (by omega)) (k := 0) (by omega))
       have hrc69 := (q63).2.1
       refine sy rfl rfl (not_t hb61) (yl_sliceR (kl := .i64) (l := 0) (h := k28) Try.un52 Try.ty9 rfl rfl (.inl ⟨rfl, rfl⟩) (.inr ⟨_, rfl, rfl⟩) (by omega) (by omega) he68 (sy rfl rfl (not_t hb61) (yl_move rfl rfl (sy rfl rfl (not_t hb61) (yl_call Try.en211 rfl (opvs_cons rfl (opvs_cons rfl opvs_nil)) (Cal.mono (c_g_slices_Contains_string (p_0.Cols.take k28) (p_0.Cols.getD k28 d_Str) (RdS.up h67 good_Str) (okL.take o3.2.1 _) (okL.getD o3.2.1 ok_d_Str _)) ?_))))))
       rintro v71 w70 ⟨rfl, hE72⟩
       have hE72z := Ex.size hE72
       refine sd rfl (yl_pick_f rfl rfl (not_t hb61) rfl (SeqR.done (tn (bcase (g_slices_Contains_string (p_0.Cols.take k28) (p_0.Cols.getD k28 d_Str)) (fun hb73 => ?_) (fun hb73 => ?_)))))
       ·refine CW.cond_t rfl hb73 (CW.seq (CW.region (sd rfl (yl_assign rfl rfl (SeqR.done (tn (CW.ret (br (tr ?_)))))))))
        refine tr ?_
        have hB75 : B_i_GoodTable_0 p_0 k28 () = .ret false := by simp only [B_i_GoodTable_0, hb16, hb21, hb23, hb61, hb73, cond_true, cond_false, loopE_done, loopE_ret]
        have hL74 : loopM (B_i_GoodTable_0 p_0) (p_0.Cols.length - 0) 0 () = .ret false := hI45.symm.trans (loopM.ret hlt56 hB75)
        refine br (tr (rr rfl (.cons rfl .nil) ?_))
        have hM76 : (i_GoodTable p_0) = (false) := by simp only [i_GoodTable, hb16, hb21, hb23, hb61, hb73, hL74, cond_true, cond_false, loopE_done, loopE_ret]
        rw [hM76]
        exact ⟨rfl, (Ex.trans (Ex.trans hf54 hE60) hE72)⟩
       ·refine CW.cond_f rfl hb73 (CW.skip (bn (tn (CW.region (sd rfl (yl_inc rfl rfl rfl (by omega) (sd rfl (yl_move rfl rfl (SeqR.done (tn ?_))))))))))
        have hB79 : B_i_GoodTable_0 p_0 k28 () = .cont () := by simp only [B_i_GoodTable_0, hb16, hb21, hb23, hb61, hb73, cond_true, cond_false, loopE_done, loopE_ret]
        exact ⟨p_0.Cols.length - (k28 + 1), by omega, k28 + 1, rfl, hlt56, (by omega), rfl, rfl, rfl, rfl, (Box.ex q62 hE72), (RdS.ex good_Str q63 hE72), (RdS.ex good_Idx (RdS.ex good_Idx hf53 hE60) hE72), (Ex.trans (Ex.trans hf54 hE60) hE72), (loopM.cont hlt56 hB79).symm.trans hI45⟩
      ·refine sz rfl rfl (not_f hb61) (sz rfl rfl (not_f hb61) (sz rfl rfl (not_f hb61) (sz rfl rfl (not_f hb61) (sz rfl rfl (not_f hb61) (sz rfl rfl (not_f hb61) (sd rfl (yl_pick_t rfl rfl (not_f hb61) rfl (SeqR.done (tn ?_)))))))))
       refine CW.cond_t rfl rfl (CW.seq (CW.region (sd rfl (yl_assign rfl rfl (SeqR.done (tn (CW.ret (br (tr ?_)))))))))
       refine tr ?_
       have hB87 : B_i_GoodTable_0 p_0 k28 () = .ret false := by simp only [B_i_GoodTable_0, hb16, hb21, hb23, hb61, cond_true, cond_false, loopE_done, loopE_ret]
       have hL86 : loopM (B_i_GoodTable_0 p_0) (p_0.Cols.length - 0) 0 () = .ret false := hI45.symm.trans (loopM.ret hlt56 hB87)
       refine br (tr (rr rfl (.cons rfl .nil) ?_))
       have hM88 : (i_GoodTable p_0) = (false) := by simp only [i_GoodTable, hb16, hb21, hb23, hb61, hL86, cond_true, cond_false, loopE_done, loopE_ret]
       rw [hM88]
       exact ⟨rfl, (Ex.trans hf54 hE60)⟩
     ·refine CW.seq (CW.region (sd rfl (yl_lss rfl rfl rfl (SeqR.done (tn (CW.seq (CW.cond_f rfl (lt_f hlt56) (CW.exit (tx ?_)))))))))
      refine tx ?_
      have hL90 : loopM (B_i_GoodTable_0 p_0) (p_0.Cols.length - 0) 0 () = .done () := hI45.symm.trans (loopM.stop hlt56)
      refine bx (tn (CW.seq (CW.seq (CW.region (sd rfl (yl_fieldAddr Try.fd65_2 rfl rfl (sd rfl (yl_load1 Try.ty63 rfl rfl ((hf51.cell 2).trans rfl) (sd rfl (yl_len Try.un63 rfl rfl (sd rfl (yl_move rfl rfl ?_))))))))))))
      refine SeqR.done (tn (CW.block (CW.loop (fun m129 L130 w131 => ∃ (k91 : Nat), m129 = p_0.Idxs.length - k91 ∧ k91 ≤ p_0.Idxs.length ∧ w43.heap.size ≤ w131.heap.size ∧ lkp L130 1 = some (.pointer (some ⟨b7, 0, none⟩)) ∧ lkp L130 45 = some (.slice A2 p_0.Idxs.length c2) ∧ lkp L130 46 = some (.int .i64 ((p_0.Idxs.length : Int))) ∧ lkp L130 47 = some (.int .i64 ((k91 : Int))) ∧ Box w131 b7 65 [.string (bs (p_0.Name)), .slice A1 p_0.Cols.length c1, .slice A2 p_0.Idxs.length c2] ∧ RdS w131 (Iv 0 w.heap.size) (RF e_Str) 1 A1 p_0.Cols.length c1 p_0.Cols ∧ RdS w131 (Iv 0 w.heap.size) (RF e_Idx) 3 A2 p_0.Idxs.length c2 p_0.Idxs ∧ Ex w w131 ∧ loopM (B_i_GoodTable_1 p_0) (p_0.Idxs.length - k91) k91 () = loopM (B_i_GoodTable_1 p_0) (p_0.Idxs.length - 0) 0 ()) (p_0.Idxs.length - 0) ?_ ?_)))
      ·exact ⟨0, rfl, (by omega), Nat.le_refl _, rfl, rfl, rfl, rfl, hf51, hf52, hf53, hf54, rfl⟩
      ·rintro m132 L133 w134 ⟨k91, rfl, hk135, hsz137, hl138, hl139, hl140, hl141, hf142, hf143, hf144, hf145, hI136⟩
       refine CW.sub (Sub.cons hl138 (Sub.cons hl139 (Sub.cons hl140 (Sub.cons hl141 (Sub.nil _))))) ?_
       have hf142z := Box.lt hf142
       have hf145z := Ex.size hf145
       have hbg146 := RdS.big hf144
       rcases Nat.lt_or_ge k91 p_0.Idxs.length with hlt147 | hlt147
       ·refine CW.seq (CW.region (sd rfl (yl_lss rfl rfl rfl (SeqR.done (tn (CW.seq (CW.cond_t rfl (lt_t hlt147) (CW.skip (tn ?_)))))))))
        refine CW.seq (CW.block (CW.seq (CW.region (sd rfl (yl_move rfl rfl ?_)))))
        obtain ⟨eb148, eo148, ec148, eA148, eS148, ebl148, el148, eR148, eC148⟩ := RdS.atD hf144 d_Idx (i := k91) (by first | omega | assumption)
        obtain rfl := eR148
        have eC148 : Cells w134 eb148 (eo148 + k91 * 3) [.string (bs ((p_0.Idxs.getD k91 d_Idx).Name)), .int .i64 ((p_0.Idxs.getD k91 d_Idx).Col), .int .i64 ((p_0.Idxs.getD k91 d_Idx).Stage)] := eC148
        refine sd rfl (yl_indexAddrN Try.un63 Try.ty152 rfl rfl rfl eA148 (by first | omega | assumption | (simp only [IntKind.wrap_i64] at *; omega)) (sd rfl (yl_loadN (cs := [.string (bs ((p_0.Idxs.getD k91 d_Idx).Name)), .int .i64 ((p_0.Idxs.getD k91 d_Idx).Col), .int .i64 ((p_0.Idxs.getD k91 d_Idx).Stage)]) Try.ty152 rfl rfl eC148 rfl (sd rfl (yl_alloc Try.ty152 (cs := [.string (bs (([] : Str))), .int .i64 (0), .int .i64 (0)]) rfl rfl ?_)))))
        intro b149 w150 hs151 hz152 hB153 hE154
        refine sd rfl (yl_assign rfl rfl (SeqR.u rfl rfl (yl_store (vs := [.string (bs ((p_0.Idxs.getD k91 d_Idx).Name)), .int .i64 ((p_0.Idxs.getD k91 d_Idx).Col), .int .i64 ((p_0.Idxs.getD k91 d_Idx).Stage)]) Try.ty152 rfl rfl rfl rfl rfl rfl hB153 (Nat.le_of_ble_eq_true rfl) ?_)))
        intro w155 hB156 hO157
        have hB156 : Box w155 b149 152 [.string (bs ((p_0.Idxs.getD k91 d_Idx).Name)), .int .i64 ((p_0.Idxs.getD k91 d_Idx).Col), .int .i64 ((p_0.Idxs.getD k91 d_Idx).Stage)] := hB156
        have hO157z := hO157.size
        refine SeqR.done (tn (CW.seq (bcase (i_areLetters ((p_0.Idxs.getD k91 d_Idx).Name) 1) (fun hb159 => ?_) (fun hb159 => ?_))))
        ·refine bcase (i_within ((p_0.Idxs.getD k91 d_Idx).Col) 1 (IntKind.wrap .i64 ((p_0.Cols.length : Int) - 1))) (fun hb164 => ?_) (fun hb164 => ?_)
         ·have hb164p := f_within hb164
          refine bcase (i_isStage ((p_0.Idxs.getD k91 d_Idx).Stage)) (fun hb170 => ?_) (fun hb170 => ?_)
          ·refine bcase (decide (0 < (k91 : Int))) (fun hb176 => ?_) (fun hb176 => ?_)
           ·have hb176p := dec_t hb176
            have q179 := Box.only (Box.ex hf142 hE154) hO157 (by omega)
            have q183 := RdS.only good_Idx (RdS.ex good_Idx hf144 hE154) hO157 (by simp only [Iv]; omega)
            obtain ⟨eb184, eo184, ec184, eA184, eS184, ebl184, el184, eR184, eC184⟩ := RdS.atD q183 d_Idx (i := (IntKind.wrap .i64 ((k91 : Int) - 1)).toNat) (by first | omega | assumption | (simp only [IntKind.wrap_i64] at *; omega))
            obtain rfl := eR184
            have eC184 : Cells w155 eb184 (eo184 + ((IntKind.wrap .i64 ((k91 : Int) - 1)).toNat) * 3) [.string (bs ((p_0.Idxs.getD ((IntKind.wrap .i64 ((k91 : Int) - 1)).toNat) d_Idx).Name)), .int .i64 ((p_0.Idxs.getD ((IntKind.wrap .i64 ((k91 : Int) - 1)).toNat) d_Idx).Col), .int .i64 ((p_0.Idxs.getD ((IntKind.wrap .i64 ((k91 : Int) - 1)).toNat) d_Idx).Stage)] := eC184
            refine CW.drawsI 36 (vgetI [DetI (.pointer (some ⟨b149, 0 + 0, none⟩)), DetI (.string (bs ((p_0.Idxs.getD k91 d_Idx).Name))), DetI (.bool ((i_areLetters ((p_0.Idxs.getD k91 d_Idx).Name) 1))), DetI (.bool (!(i_areLetters ((p_0.Idxs.getD k91 d_Idx).Name) 1))), DetI (.bool (!(i_areLetters ((p_0.Idxs.getD k91 d_Idx).Name) 1))), DetI (.pointer (some ⟨b149, 0 + 1, none⟩)), DetI (.int .i64 ((p_0.Idxs.getD k91 d_Idx).Col)), DetI (.pointer (some ⟨b7, 0 + 1, none⟩)), DetI (.slice A1 p_0.Cols.length c1), DetI (.int .i64 ((p_0.Cols.length : Int))), DetI (.int .i64 (IntKind.wrap .i64 ((p_0.Cols.length : Int) - 1))), DetI (.bool ((i_within ((p_0.Idxs.getD k91 d_Idx).Col) 1 (IntKind.wrap .i64 ((p_0.Cols.length : Int) - 1))))), DetI (.bool (!(i_within ((p_0.Idxs.getD k91 d_Idx).Col) 1 (IntKind.wrap .i64 ((p_0.Cols.length : Int) - 1))))), DetI (.bool (!(i_within ((p_0.Idxs.getD k91 d_Idx).Col) 1 (IntKind.wrap .i64 ((p_0.Cols.length : Int) - 1))))), DetI (.bool (!(i_within ((p_0.Idxs.getD k91 d_Idx).Col) 1 (IntKind.wrap .i64 ((p_0.Cols.length : Int) - 1))))), DetI (.pointer (some ⟨b149, 0 + 2, none⟩)), DetI (.int .i64 ((p_0.Idxs.getD k91 d_Idx).Stage)), DetI (.bool ((i_isStage ((p_0.Idxs.getD k91 d_Idx).Stage)))), DetI (.bool (!(i_isStage ((p_0.Idxs.getD k91 d_Idx).Stage)))), DetI (.bool (!(i_isStage ((p_0.Idxs.getD k91 d_Idx).Stage)))), DetI (.bool (!(i_isStage ((p_0.Idxs.getD k91 d_Idx).Stage)))), DetI (.int .i64 ((k91 : Int))), DetI (.bool (decide (0 < (k91 : Int)))), DetI (.bool (decide (0 < (k91 : Int)))), DetI (.pointer (some ⟨b149, 0 + 0, none⟩)), DetI (.string (bs ((p_0.Idxs.getD k91 d_Idx).Name))), DetI (.pointer (some ⟨b7, 0 + 2, none⟩)), DetI (.slice A2 p_0.Idxs.length c2), DetI (.int .i64 ((k91 : Int))), DetI (.int .i64 (IntKind.wrap .i64 ((k91 : Int) - 1))), DetI (.pointer (some ⟨eb184, eo184 + ((IntKind.wrap .i64 ((k91 : Int) - 1)).toNat) * 3, none⟩)), DetI (.pointer (some ⟨eb184, eo184 + ((IntKind.wrap .i64 ((k91 : Int) - 1)).toNat) * 3 + 0, none⟩)), DetI (.string (bs ((p_0.Idxs.getD ((IntKind.wrap .i64 ((k91 : Int) - 1)).toNat) d_Idx).Name))), DetI (.bool (sLe ((p_0.Idxs.getD k91 d_Idx).Name) ((p_0.Idxs.getD ((IntKind.wrap .i64 ((k91 : Int) - 1)).toNat) d_Idx).Name))), DetI (.bool (sLe ((p_0.Idxs.getD k91 d_Idx).Name) ((p_0.Idxs.getD ((IntKind.wrap .i64 ((k91 : Int) - 1)).toNat) d_Idx).Name))), DetI (.bool (sLe ((p_0.Idxs.getD k91 d_Idx).Name) ((p_0.Idxs.getD ((IntKind.wrap .i64 ((k91 : Int) - 1)).toNat) d_Idx).Name)))]) Try.follows rfl rfl rfl rfl rfl rfl (vgetI_stable ⟨StableI.det _, StableI.det _, StableI.det _, StableI.det _, StableI.det _, StableI.det _, StableI.det _, StableI.det _, StableI.det _, StableI.det _, StableI.det _, StableI.det _, StableI.det _, StableI.det _, StableI.det _, StableI.det _, StableI.det _, StableI.det _, StableI.det _, StableI.det _, StableI.det _, StableI.det _, StableI.det _, StableI.det _, StableI.det _, StableI.det _, StableI.det _, StableI.det _, StableI.det _, StableI.det _, StableI.det _, StableI.det _, StableI.det _, StableI.det _, StableI.det _, StableI.det _, trivial⟩) ⟨?_, ?_, ?_, ?_, ?_, ?_, ?_, ?_, ?_, ?_, ?_, ?_, ?_, ?_, ?_, ?_, ?_, ?_, ?_, ?_, ?_, ?_, ?_, ?_, ?_, ?_, ?_, ?_, ?_, ?_, ?_, ?_, ?_, ?_, ?_, ?_, trivial⟩ ?_
            ·exact fun _ _ h => os rfl ((yl_fieldAddr Try.fd152_0 rfl (h.old 6 _ rfl rfl) kI))
            ·exact fun _ _ h => os rfl ((yl_load1 Try.ty9 rfl (h.dt 0 52 rfl rfl rfl) (((Box.ex hB156 h.ex).cell 0).trans rfl) kI))
            ·intro L196 w197 hi198
             refine OpR.op' rfl (yl_call Try.en210 rfl (opvs_cons (hi198.dt 1 53 rfl rfl rfl) (opvs_cons rfl opvs_nil)) (Cal.mono (c_i_areLetters ((p_0.Idxs.getD k91 d_Idx).Name) 1 (okL.getD o3.2.2 ok_d_Idx _)) ?_))
             rintro v202 w201 ⟨rfl, hE203⟩
             exact ⟨rfl, hE203⟩
            ·exact fun _ _ h => os rfl ((yl_not rfl (h.dt 2 54 rfl rfl rfl) kI))
            ·exact fun _ _ h => os rfl ((yl_move rfl (h.dt 3 55 rfl rfl rfl) kI))
            ·exact fun _ _ h => OpR.want rfl rfl (h.dt 4 56 rfl rfl rfl) (not_t hb159) (Yl.sameI (yl_fieldAddr Try.fd152_1 rfl (h.old 6 _ rfl rfl) kI))
            ·exact fun _ _ h => OpR.want rfl rfl (h.dt 4 56 rfl rfl rfl) (not_t hb159) (Yl.sameI (yl_load1 Try.ty3 rfl (h.dt 5 57 rfl rfl rfl) (((Box.ex hB156 h.ex).cell 1).trans rfl) kI))
            ·exact fun _ _ h => OpR.want rfl rfl (h.dt 4 56 rfl rfl rfl) (not_t hb159) (Yl.sameI (yl_fieldAddr Try.fd65_1 rfl (h.old 1 _ rfl rfl) kI))
            ·exact fun _ _ h => OpR.want rfl rfl (h.dt 4 56 rfl rfl rfl) (not_t hb159) (Yl.sameI (yl_load1 Try.ty52 rfl (h.dt 7 59 rfl rfl rfl) (((Box.ex q179 h.ex).cell 1).trans rfl) kI))
            ·exact fun _ _ h => OpR.want rfl rfl (h.dt 4 56 rfl rfl rfl) (not_t hb159) (Yl.sameI (yl_len Try.un52 rfl (h.dt 8 60 rfl rfl rfl) kI))
            ·exact fun _ _ h => OpR.want rfl rfl (h.dt 4 56 rfl rfl rfl) (not_t hb159) (Yl.sameI (yl_sub rfl (h.dt 9 61 rfl rfl rfl) rfl kI))
            ·intro L252 w253 hi254
             refine OpR.want rfl rfl (hi254.dt 4 56 rfl rfl rfl) (not_t hb159) (yl_call Try.en142 rfl (opvs_cons (hi254.dt 6 58 rfl rfl rfl) (opvs_cons rfl (opvs_cons (hi254.dt 10 62 rfl rfl rfl) opvs_nil))) (Cal.mono (c_i_within ((p_0.Idxs.getD k91 d_Idx).Col) 1 (IntKind.wrap .i64 ((p_0.Cols.length : Int) - 1))) ?_))
             rintro v260 w259 ⟨rfl, hE261⟩
             exact ⟨rfl, hE261⟩
            ·exact fun _ _ h => OpR.want rfl rfl (h.dt 4 56 rfl rfl rfl) (not_t hb159) (Yl.sameI (yl_not rfl (h.dt 11 63 rfl rfl rfl) kI))
            ·exact fun _ _ h => os rfl ((yl_pick_f rfl (h.dt 4 56 rfl rfl rfl) (not_t hb159) (h.dt 12 64 rfl rfl rfl) kI))
            ·exact fun _ _ h => os rfl ((yl_move rfl (h.dt 13 65 rfl rfl rfl) kI))
            ·exact fun _ _ h => OpR.want rfl rfl (h.dt 14 66 rfl rfl rfl) (not_t hb164) (Yl.sameI (yl_fieldAddr Try.fd152_2 rfl (h.old 6 _ rfl rfl) kI))
            ·exact fun _ _ h => OpR.want rfl rfl (h.dt 14 66 rfl rfl rfl) (not_t hb164) (Yl.sameI (yl_load1 Try.ty3 rfl (h.dt 15 67 rfl rfl rfl) (((Box.ex hB156 h.ex).cell 2).trans rfl) kI))
            ·intro L292 w293 hi294
             refine OpR.want rfl rfl (hi294.dt 14 66 rfl rfl rfl) (not_t hb164) (yl_call Try.en212 rfl (opvs_cons (hi294.dt 16 68 rfl rfl rfl) opvs_nil) (Cal.mono (c_i_isStage ((p_0.Idxs.getD k91 d_Idx).Stage)) ?_))
             rintro v299 w298 ⟨rfl, hE300⟩
             exact ⟨rfl, hE300⟩
            ·exact fun _ _ h => OpR.want rfl rfl (h.dt 14 66 rfl rfl rfl) (not_t hb164) (Yl.sameI (yl_not rfl (h.dt 17 69 rfl rfl rfl) kI))
            ·exact fun _ _ h => os rfl ((yl_pick_f rfl (h.dt 14 66 rfl rfl rfl) (not_t hb164) (h.dt 18 70 rfl rfl rfl) kI))
            ·exact fun _ _ h => os rfl ((yl_move rfl (h.dt 19 71 rfl rfl rfl) kI))
            ·exact fun _ _ h => OpR.want rfl rfl (h.dt 20 72 rfl rfl rfl) (not_t hb170) (Yl.sameI (yl_move rfl (h.old 5 _ rfl rfl) kI))
            ·exact fun _ _ h => OpR.want rfl rfl (h.dt 20 72 rfl rfl rfl) (not_t hb170) (Yl.sameI (yl_gtr rfl (h.dt 21 73 rfl rfl rfl) rfl kI))
            ·exact fun _ _ h => OpR.want rfl rfl (h.dt 20 72 rfl rfl rfl) (not_t hb170) (Yl.sameI (yl_move rfl (h.dt 22 74 rfl rfl rfl) kI))
            ·exact fun _ _ h => OpR.want rfl rfl (h.dt 23 75 rfl rfl rfl) hb176 (Yl.sameI (yl_fieldAddr Try.fd152_0 rfl (h.old 6 _ rfl rfl) kI))
            ·exact fun _ _ h => OpR.want rfl rfl (h.dt 23 75 rfl rfl rfl) hb176 (Yl.sameI (yl_load1 Try.ty9 rfl (h.dt 24 76 rfl rfl rfl) (((Box.ex hB156 h.ex).cell 0).trans rfl) kI))
            ·exact fun _ _ h => OpR.want rfl rfl (h.dt 23 75 rfl rfl rfl) hb176 (Yl.sameI (yl_fieldAddr Try.fd65_2 rfl (h.old 1 _ rfl rfl) kI))
            ·exact fun _ _ h => OpR.want rfl rfl (h.dt 23 75 rfl rfl rfl) hb176 (Yl.sameI (yl_load1 Try.ty63 rfl (h.dt 26 78 rfl rfl rfl) (((Box.ex q179 h.ex).cell 2).trans rfl) kI))
            ·exact fun _ _ h => OpR.want rfl rfl (h.dt 23 75 rfl rfl rfl) hb176 (Yl.sameI (yl_move rfl (h.old 5 _ rfl rfl) kI))
            ·exact fun _ _ h => OpR.want rfl rfl (h.dt 23 75 rfl rfl rfl) hb176 (Yl.sameI (yl_sub rfl (h.dt 28 80 rfl rfl rfl) rfl kI))
            ·intro L374 w375 hi376
             have hE377 := hi376.ex
             have hE377z := Ex.size hE377
             exact OpR.want rfl rfl (hi376.dt 23 75 rfl rfl rfl) hb176 (Yl.sameI (yl_indexAddr Try.un63 Try.ty152 rfl (hi376.dt 27 79 rfl rfl rfl) (hi376.dt 29 81 rfl rfl rfl) eA184 (by first | omega | assumption | (simp only [IntKind.wrap_i64] at *; omega)) (by first | omega | assumption | (simp only [IntKind.wrap_i64] at *; omega)) kI))
            ·exact fun _ _ h => OpR.want rfl rfl (h.dt 23 75 rfl rfl rfl) hb176 (Yl.sameI (yl_fieldAddr Try.fd152_0 rfl (h.dt 30 82 rfl rfl rfl) kI))
            ·exact fun _ _ h => OpR.want rfl rfl (h.dt 23 75 rfl rfl rfl) hb176 (Yl.sameI (yl_load1 Try.ty9 rfl (h.dt 31 83 rfl rfl rfl) ((Cells.ex eC184 h.ex) 0 _ rfl) kI))
            ·exact fun _ _ h => OpR.want rfl rfl (h.dt 23 75 rfl rfl rfl) hb176 (Yl.sameI (yl_sleq (a := ((p_0.Idxs.getD k91 d_Idx).Name)) (b := ((p_0.Idxs.getD ((IntKind.wrap .i64 ((k91 : Int) - 1)).toNat) d_Idx).Name)) rfl (h.dt 25 77 rfl rfl rfl) (h.dt 32 84 rfl rfl rfl) kI))
            ·exact fun _ _ h => OpR.want rfl rfl (h.dt 20 72 rfl rfl rfl) (not_t hb170) (Yl.sameI (yl_pick_t rfl (h.dt 23 75 rfl rfl rfl) hb176 (h.dt 33 85 rfl rfl rfl) kI))
            ·exact fun _ _ h => os rfl ((yl_pick_f rfl (h.dt 20 72 rfl rfl rfl) (not_t hb170) (h.dt 34 86 rfl rfl rfl) kI))
            ·intro fl417 fh418 L414 w415 hp416
             have hE419 := hp416.ex
             have hE419z := Ex.size hE419
             refine SeqR.done (tn (CW.sub (Sub.cons (d := 1) (hp416.old 1 _ rfl rfl) (Sub.cons (d := 45) (hp416.old 45 _ rfl rfl) (Sub.cons (d := 46) (hp416.old 46 _ rfl rfl) (Sub.cons (d := 47) (hp416.old 47 _ rfl rfl) (Sub.cons (d := 57) (hp416.nt 5 57 rfl rfl rfl) (Sub.cons (d := 58) (hp416.nt 6 58 rfl rfl rfl) (Sub.cons (d := 59) (hp416.nt 7 59 rfl rfl rfl) (Sub.cons (d := 60) (hp416.nt 8 60 rfl rfl rfl) (Sub.cons (d := 61) (hp416.nt 9 61 rfl rfl rfl) (Sub.cons (d := 62) (hp416.nt 10 62 rfl rfl rfl) (Sub.cons (d := 63) (hp416.nt 11 63 rfl rfl rfl) (Sub.cons (d := 64) (hp416.nt 12 64 rfl rfl rfl) (Sub.cons (d := 67) (hp416.nt 15 67 rfl rfl rfl) (Sub.cons (d := 68) (hp416.nt 16 68 rfl rfl rfl) (Sub.cons (d := 69) (hp416.nt 17 69 rfl rfl rfl) (Sub.cons (d := 70) (hp416.nt 18 70 rfl rfl rfl) (Sub.cons (d := 73) (hp416.nt 21 73 rfl rfl rfl) (Sub.cons (d := 74) (hp416.nt 22 74 rfl rfl rfl) (Sub.cons (d := 75) (hp416.nt 23 75 rfl rfl rfl) (Sub.cons (d := 76) (hp416.nt 24 76 rfl rfl rfl) (Sub.cons (d := 77) (hp416.nt 25 77 rfl rfl rfl) (Sub.cons (d := 78) (hp416.nt 26 78 rfl rfl rfl) (Sub.cons (d := 79) (hp416.nt 27 79 rfl rfl rfl) (Sub.cons (d := 80) (hp416.nt 28 80 rfl rfl rfl) (Sub.cons (d := 81) (hp416.nt 29 81 rfl rfl rfl) (Sub.cons (d := 82) (hp416.nt 30 82 rfl rfl rfl) (Sub.cons (d := 83) (hp416.nt 31 83 rfl rfl rfl) (Sub.cons (d := 84) (hp416.nt 32 84 rfl rfl rfl) (Sub.cons (d := 85) (hp416.nt 33 85 rfl rfl rfl) (Sub.cons (d := 86) (hp416.nt 34 86 rfl rfl rfl) (Sub.cons (d := 87) (hp416.nt 35 87 rfl rfl rfl) (Sub.nil _)))))))))))))))))))))))))))))))) ?_))
             refine bcase (sLe ((p_0.Idxs.getD k91 d_Idx).Name) ((p_0.Idxs.getD ((IntKind.wrap .i64 ((k91 : Int) - 1)).toNat) d_Idx).Name)) (fun hb451 => ?_) (fun hb451 => ?_)
             ·refine CW.cond_t rfl hb451 (CW.seq (CW.region (sd rfl (yl_assign rfl rfl (SeqR.done (tn (CW.ret (br (tr ?_)))))))))
              refine tr ?_
              have hB453 : B_i_GoodTable_1 p_0 k91 () = .ret false := by simp only [B_i_GoodTable_1, hb16, hb21, hb23, hb159, hb164, hb170, hb176, hb451, hL90, cond_true, cond_false, loopE_done, loopE_ret]
              have hL452 : loopM (B_i_GoodTable_1 p_0) (p_0.Idxs.length - 0) 0 () = .ret false := hI136.symm.trans (loopM.ret hlt147 hB453)
              refine br (tr (rr rfl (.cons rfl .nil) ?_))
              have hM454 : (i_GoodTable p_0) = (false) := by simp only [i_GoodTable, hb16, hb21, hb23, hb159, hb164, hb170, hb176, hb451, hL90, hL452, cond_true, cond_false, loopE_done, loopE_ret]
              rw [hM454]
              exact ⟨rfl, (Ex.trans (Below.only (Ex.trans hf145 hE154) hO157 (by omega)) hE419)⟩
             ·refine CW.cond_f rfl hb451 (CW.skip (bn (tn (CW.region (sd rfl (yl_inc rfl rfl rfl (by omega) (sd rfl (yl_move rfl rfl (SeqR.done (tn ?_))))))))))
              have hB458 : B_i_GoodTable_1 p_0 k91 () = .cont () := by simp only [B_i_GoodTable_1, hb16, hb21, hb23, hb159, hb164, hb170, hb176, hb451, hL90, cond_true, cond_false, loopE_done, loopE_ret]
              exact ⟨p_0.Idxs.length - (k91 + 1), by omega, k91 + 1, rfl, hlt147, (by omega), rfl, rfl, rfl, rfl, (Box.ex q179 hE419), (RdS.ex good_Str (RdS.only good_Str (RdS.ex good_Str hf143 hE154) hO157 (by simp only [Iv]; omega)) hE419), (RdS.ex good_Idx q183 hE419), (Ex.trans (Below.only (Ex.trans hf145 hE154) hO157 (by omega)) hE419), (loopM.cont hlt147 hB458).symm.trans hI136⟩
           ·have hb176p := dec_f hb176
            have q469 := Box.only (Box.ex hf142 hE154) hO157 (by omega)
            refine CW.drawsI 36 (vgetI [DetI (.pointer (some ⟨b149, 0 + 0, none⟩)), DetI (.string (bs ((p_0.Idxs.getD k91 d_Idx).Name))), DetI (.bool ((i_areLetters ((p_0.Idxs.getD k91 d_Idx).Name) 1))), DetI (.bool (!(i_areLetters ((p_0.Idxs.getD k91 d_Idx).Name) 1))), DetI (.bool (!(i_areLetters ((p_0.Idxs.getD k91 d_Idx).Name) 1))), DetI (.pointer (some ⟨b149, 0 + 1, none⟩)), DetI (.int .i64 ((p_0.Idxs.getD k91 d_Idx).Col)), DetI (.pointer (some ⟨b7, 0 + 1, none⟩)), DetI (.slice A1 p_0.Cols.length c1), DetI (.int .i64 ((p_0.Cols.length : Int))), DetI (.int .i64 (IntKind.wrap .i64 ((p_0.Cols.length : Int) - 1))), DetI (.bool ((i_within ((p_0.Idxs.getD k91 d_Idx).Col) 1 (IntKind.wrap .i64 ((p_0.Cols.length : Int) - 1))))), DetI (.bool (!(i_within ((p_0.Idxs.getD k91 d_Idx).Col) 1 (IntKind.wrap .i64 ((p_0.Cols.length : Int) - 1))))), DetI (.bool (!(i_within ((p_0.Idxs.getD k91 d_Idx).Col) 1 (IntKind.wrap .i64 ((p_0.Cols.length : Int) - 1))))), DetI (.bool (!(i_within ((p_0.Idxs.getD k91 d_Idx).Col) 1 (IntKind.wrap .i64 ((p_0.Cols.length : Int) - 1))))), DetI (.pointer (some ⟨b149, 0 + 2, none⟩)), DetI (.int .i64 ((p_0.Idxs.getD k91 d_Idx).Stage)), DetI (.bool ((i_isStage ((p_0.Idxs.getD k91 d_Idx).Stage)))), DetI (.bool (!(i_isStage ((p_0.Idxs.getD k91 d_Idx).Stage)))), DetI (.bool (!(i_isStage ((p_0.Idxs.getD k91 d_Idx).Stage)))), DetI (.bool (!(i_isStage ((p_0.Idxs.getD k91 d_Idx).Stage)))), DetI (.int .i64 ((k91 : Int))), DetI (.bool (decide (0 < (k91 : Int)))), DetI (.bool (decide (0 < (k91 : Int)))), DetI (undef), DetI (undef), DetI (undef), DetI (undef), DetI (undef), DetI (undef), DetI (undef), DetI (undef), DetI (undef), DetI (undef), DetI (.bool (false)), DetI (.bool (false))]) Try.follows rfl rfl rfl rfl rfl rfl (vgetI_stable ⟨StableI.det _, StableI.det _, StableI.det _, StableI.det _, StableI.det _, StableI.det _, StableI.det _, StableI.det _, StableI.det _, StableI.det _, StableI.det _, StableI.det _, StableI.det _, StableI.det _, StableI.det _, StableI.det _, StableI.det _, StableI.det _, StableI.det _, StableI.det _, StableI.det _, StableI.det _, StableI.det _, StableI.det _, StableI.det _, StableI.det _, StableI.det _, StableI.det _, StableI.det _, StableI.det _, StableI.det _, StableI.det _, StableI.det _, StableI.det _, StableI.det _, StableI.det _, trivial⟩) ⟨?_, ?_, ?_, ?_, ?_, ?_, ?_, ?_, ?_, ?_, ?_, ?_, ?_, ?_, ?_, ?_, ?_, ?_, ?_, ?_, ?_, ?_, ?_, ?_, ?_, ?_, ?_, ?_, ?_, ?_, ?_, ?_, ?_, ?_, ?_, ?_, trivial⟩ ?_
            ·exact fun _ _ h => os rfl ((yl_fieldAddr Try.fd152_0 rfl (h.old 6 _ rfl rfl) kI))
            ·exact fun _ _ h => os rfl ((yl_load1 Try.ty9 rfl (h.dt 0 52 rfl rfl rfl) (((Box.ex hB156 h.ex).cell 0).trans rfl) kI))
            ·intro L483 w484 hi485
             refine OpR.op' rfl (yl_call Try.en210 rfl (opvs_cons (hi485.dt 1 53 rfl rfl rfl) (opvs_cons rfl opvs_nil)) (Cal.mono (c_i_areLetters ((p_0.Idxs.getD k91 d_Idx).Name) 1 (okL.getD o3.2.2 ok_d_Idx _)) ?_))
             rintro v489 w488 ⟨rfl, hE490⟩
             exact ⟨rfl, hE490⟩
            ·exact fun _ _ h => os rfl ((yl_not rfl (h.dt 2 54 rfl rfl rfl) kI))
            ·exact fun _ _ h => os rfl ((yl_move rfl (h.dt 3 55 rfl rfl rfl) kI))
            ·exact fun _ _ h => OpR.want rfl rfl (h.dt 4 56 rfl rfl rfl) (not_t hb159) (Yl.sameI (yl_fieldAddr Try.fd152_1 rfl (h.old 6 _ rfl rfl) kI))
            ·exact fun _ _ h => OpR.want rfl rfl (h.dt 4 56 rfl rfl rfl) (not_t hb159) (Yl.sameI (yl_load1 Try.ty3 rfl (h.dt 5 57 rfl rfl rfl) (((Box.ex hB156 h.ex).cell 1).trans rfl) kI))
            ·exact fun _ _ h => OpR.want rfl rfl (h.dt 4 56 rfl rfl rfl) (not_t hb159) (Yl.sameI (yl_fieldAddr Try.fd65_1 rfl (h.old 1 _ rfl rfl) kI))
            ·exact fun _ _ h => OpR.want rfl rfl (h.dt 4 56 rfl rfl rfl) (not_t hb159) (Yl.sameI (yl_load1 Try.ty52 rfl (h.dt 7 59 rfl rfl rfl) (((Box.ex q469 h.ex).cell 1).trans rfl) kI))
            ·exact fun _ _ h => OpR.want rfl rfl (h.dt 4 56 rfl rfl rfl) (not_t hb159) (Yl.sameI (yl_len Try.un52 rfl (h.dt 8 60 rfl rfl rfl) kI))
            ·exact fun _ _ h => OpR.want rfl rfl (h.dt 4 56 rfl rfl rfl) (not_t hb159) (Yl.sameI (yl_sub rfl (h.dt 9 61 rfl rfl rfl) rfl kI))
            ·intro L539 w540 hi541
             refine OpR.want rfl rfl (hi541.dt 4 56 rfl rfl rfl) (not_t hb159) (yl_call Try.en142 rfl (opvs_cons (hi541.dt 6 58 rfl rfl rfl) (opvs_cons rfl (opvs_cons (hi541.dt 10 62 rfl rfl rfl) opvs_nil))) (Cal.mono (c_i_within ((p_0.Idxs.getD k91 d_Idx).Col) 1 (IntKind.wrap .i64 ((p_0.Cols.length : Int) - 1))) ?_))
             rintro v547 w546 ⟨rfl, hE548⟩
             exact ⟨rfl, hE548⟩
            ·exact fun _ _ h => OpR.want rfl rfl (h.dt 4 56 rfl rfl rfl) (not_t hb159) (Yl.sameI (yl_not rfl (h.dt 11 63 rfl rfl rfl) kI))
            ·exact fun _ _ h => os rfl ((yl_pick_f rfl (h.dt 4 56 rfl rfl rfl) (not_t hb159) (h.dt 12 64 rfl rfl rfl) kI))
            ·exact fun _ _ h => os rfl ((yl_move rfl (h.dt 13 65 rfl rfl rfl) kI))
            ·exact fun _ _ h => OpR.want rfl rfl (h.dt 14 66 rfl rfl rfl) (not_t hb164) (Yl.sameI (yl_fieldAddr Try.fd152_2 rfl (h.old 6 _ rfl rfl) kI))
            ·exact fun _ _ h => OpR.want rfl rfl (h.dt 14 66 rfl rfl rfl) (not_t hb164) (Yl.sameI (yl_load1 Try.ty3 rfl (h.dt 15 67 rfl rfl rfl) (((Box.ex hB156 h.ex).cell 2).trans rfl) kI))
            ·intro L579 w580 hi581
             refine OpR.want rfl rfl (hi581.dt 14 66 rfl rfl rfl) (not_t hb164) (yl_call Try.en212 rfl (opvs_cons (hi581.dt 16 68 rfl rfl rfl) opvs_nil) (Cal.mono (c_i_isStage ((p_0.Idxs.getD k91 d_Idx).Stage)) ?_))
             rintro v586 w585 ⟨rfl, hE587⟩
             exact ⟨rfl, hE587⟩
            ·exact fun _ _ h => OpR.want rfl rfl (h.dt 14 66 rfl rfl rfl) (not_t hb164) (Yl.sameI (yl_not rfl (h.dt 17 69 rfl rfl rfl) kI))
            ·exact fun _ _ h => os rfl ((yl_pick_f rfl (h.dt 14 66 rfl rfl rfl) (not_t hb164) (h.dt 18 70 rfl rfl rfl) kI))
            ·exact fun _ _ h => os rfl ((yl_move rfl (h.dt 19 71 rfl rfl rfl) kI))
            ·exact fun _ _ h => OpR.want rfl rfl (h.dt 20 72 rfl rfl rfl) (not_t hb170) (Yl.sameI (yl_move rfl (h.old 5 _ rfl rfl) kI))
            ·exact fun _ _ h => OpR.want rfl rfl (h.dt 20 72 rfl rfl rfl) (not_t hb170) (Yl.sameI (yl_gtr rfl (h.dt 21 73 rfl rfl rfl) rfl kI))
            ·exact fun _ _ h => OpR.want rfl rfl (h.dt 20 72 rfl rfl rfl) (not_t hb170) (Yl.sameI (yl_move rfl (h.dt 22 74 rfl rfl rfl) kI))
            ·exact fun _ _ h => OpR.skip rfl rfl (h.dt 23 75 rfl rfl rfl) hb176 ⟨rfl, Ex.refl _⟩
            ·exact fun _ _ h => OpR.skip rfl rfl (h.dt 23 75 rfl rfl rfl) hb176 ⟨rfl, Ex.refl _⟩
            ·exact fun _ _ h => OpR.skip rfl rfl (h.dt 23 75 rfl rfl rfl) hb176 ⟨rfl, Ex.refl _⟩
            ·exact fun _ _ h => OpR.skip rfl rfl (h.dt 23 75 rfl rfl rfl) hb176 ⟨rfl, Ex.refl _⟩
            ·exact fun _ _ h => OpR.skip rfl rfl (h.dt 23 75 rfl rfl rfl) hb176 ⟨rfl, Ex.refl _⟩
            ·exact fun _ _ h => OpR.skip rfl rfl (h.dt 23 75 rfl rfl rfl) hb176 ⟨rfl, Ex.refl _⟩
            ·exact fun _ _ h => OpR.skip rfl rfl (h.dt 23 75 rfl rfl rfl) hb176 ⟨rfl, Ex.refl _⟩
            ·exact fun _ _ h => OpR.skip rfl rfl (h.dt 23 75 rfl rfl rfl) hb176 ⟨rfl, Ex.refl _⟩
            ·exact fun _ _ h => OpR.skip rfl rfl (h.dt 23 75 rfl rfl rfl) hb176 ⟨rfl, Ex.refl _⟩
            ·exact fun _ _ h => OpR.skip rfl rfl (h.dt 23 75 rfl rfl rfl) hb176 ⟨rfl, Ex.refl _⟩
            ·exact fun _ _ h => OpR.want rfl rfl (h.dt 20 72 rfl rfl rfl) (not_t hb170) (Yl.sameI (yl_pick_f rfl (h.dt 23 75 rfl rfl rfl) hb176 rfl kI))
            ·exact fun _ _ h => os rfl ((yl_pick_f rfl (h.dt 20 72 rfl rfl rfl) (not_t hb170) (h.dt 34 86 rfl rfl rfl) kI))
            ·intro fl689 fh690 L686 w687 hp688
             have hE691 := hp688.ex
             have hE691z := Ex.size hE691
             refine SeqR.done (tn (CW.sub (Sub.cons (d := 1) (hp688.old 1 _ rfl rfl) (Sub.cons (d := 45) (hp688.old 45 _ rfl rfl) (Sub.cons (d := 46) (hp688.old 46 _ rfl rfl) (Sub.cons (d := 47) (hp688.old 47 _ rfl rfl) (Sub.cons (d := 57) (hp688.nt 5 57 rfl rfl rfl) (Sub.cons (d := 58) (hp688.nt 6 58 rfl rfl rfl) (Sub.cons (d := 59) (hp688.nt 7 59 rfl rfl rfl) (Sub.cons (d := 60) (hp688.nt 8 60 rfl rfl rfl) (Sub.cons (d := 61) (hp688.nt 9 61 rfl rfl rfl) (Sub.cons (d := 62) (hp688.nt 10 62 rfl rfl rfl) (Sub.cons (d := 63) (hp688.nt 11 63 rfl rfl rfl) (Sub.cons (d := 64) (hp688.nt 12 64 rfl rfl rfl) (Sub.cons (d := 67) (hp688.nt 15 67 rfl rfl rfl) (Sub.cons (d := 68) (hp688.nt 16 68 rfl rfl rfl) (Sub.cons (d := 69) (hp688.nt 17 69 rfl rfl rfl) (Sub.cons (d := 70) (hp688.nt 18 70 rfl rfl rfl) (Sub.cons (d := 73) (hp688.nt 21 73 rfl rfl rfl) (Sub.cons (d := 74) (hp688.nt 22 74 rfl rfl rfl) (Sub.cons (d := 75) (hp688.nt 23 75 rfl rfl rfl) (Sub.cons (d := 76) (hp688.nt 24 76 rfl rfl rfl) (Sub.cons (d := 77) (hp688.nt 25 77 rfl rfl rfl) (Sub.cons (d := 78) (hp688.nt 26 78 rfl rfl rfl) (Sub.cons (d := 79) (hp688.nt 27 79 rfl rfl rfl) (Sub.cons (d := 80) (hp688.nt 28 80 rfl rfl rfl) (Sub.cons (d := 81) (hp688.nt 29 81 rfl rfl rfl) (Sub.cons (d := 82) (hp688.nt 30 82 rfl rfl rfl) (Sub.cons (d := 83) (hp688.nt 31 83 rfl rfl rfl) (Sub.cons (d := 84) (hp688.nt 32 84 rfl rfl rfl) (Sub.cons (d := 85) (hp688.nt 33 85 rfl rfl rfl) (Sub.cons (d := 86) (hp688.nt 34 86 rfl rfl rfl) (Sub.cons (d := 87) (hp688.nt 35 87 rfl rfl rfl) (Sub.nil _)))))))))))))))))))))))))))))))) ?_))
             refine CW.cond_f rfl rfl (CW.skip (bn (tn (CW.region (sd rfl (yl_inc rfl rfl rfl (by omega) (sd rfl (yl_move rfl rfl (SeqR.done (tn ?_))))))))))
             have hB723 : B_i_GoodTable_1 p_0 k91 () = .cont () := by simp only [B_i_GoodTable_1, hb16, hb21, hb23, hb159, hb164, hb170, hb176, hL90, cond_true, cond_false, loopE_done, loopE_ret]
             exact ⟨p_0.Idxs.length - (k91 + 1), by omega, k91 + 1, rfl, hlt147, (by omega), rfl, rfl, rfl, rfl, (Box.ex q469 hE691), (RdS.ex good_Str (RdS.only good_Str (RdS.ex good_Str hf143 hE154) hO157 (by simp only [Iv]; omega)) hE691), (RdS.ex good_Idx (RdS.only good_Idx (RdS.ex good_Idx hf144 hE154) hO157 (by simp only [Iv]; omega)) hE691), (Ex.trans (Below.only (Ex.trans hf145 hE154) hO157 (by omega)) hE691), (loopM.cont hlt147 hB723).symm.trans hI136⟩
          ·refine CW.drawsI 36 (vgetI [DetI (.pointer (some ⟨b149, 0 + 0, none⟩)), DetI (.string (bs ((p_0.Idxs.getD k91 d_Idx).Name))), DetI (.bool ((i_areLetters ((p_0.Idxs.getD k91 d_Idx).Name) 1))), DetI (.bool (!(i_areLetters ((p_0.Idxs.getD k91 d_Idx).Name) 1))), DetI (.bool (!(i_areLetters ((p_0.Idxs.getD k91 d_Idx).Name) 1))), DetI (.pointer (some ⟨b149, 0 + 1, none⟩)), DetI (.int .i64 ((p_0.Idxs.getD k91 d_Idx).Col)), DetI (.pointer (some ⟨b7, 0 + 1, none⟩)), DetI (.slice A1 p_0.Cols.length c1), DetI (.int .i64 ((p_0.Cols.length : Int))), DetI (.int .i64 (IntKind.wrap .i64 ((p_0.Cols.length : Int) - 1))), DetI (.bool ((i_within ((p_0.Idxs.getD k91 d_Idx).Col) 1 (IntKind.wrap .i64 ((p_0.Cols.length : Int) - 1))))), DetI (.bool (!(i_within ((p_0.Idxs.getD k91 d_Idx).Col) 1 (IntKind.wrap .i64 ((p_0.Cols.length : Int) - 1))))), DetI (.bool (!(i_within ((p_0.Idxs.getD k91 d_Idx).Col) 1 (IntKind.wrap .i64 ((p_0.Cols.length : Int) - 1))))), DetI (.bool (!(i_within ((p_0.Idxs.getD k91 d_Idx).Col) 1 (IntKind.wrap .i64 ((p_0.Cols.length : Int) - 1))))), DetI (.pointer (some ⟨b149, 0 + 2, none⟩)), DetI (.int .i64 ((p_0.Idxs.getD k91 d_Idx).Stage)), DetI (.bool ((i_isStage ((p_0.Idxs.getD k91 d_Idx).Stage)))), DetI (.bool (!(i_isStage ((p_0.Idxs.getD k91 d_Idx).Stage)))), DetI (.bool (!(i_isStage ((p_0.Idxs.getD k91 d_Idx).Stage)))), DetI (.bool (!(i_isStage ((p_0.Idxs.getD k91 d_Idx).Stage)))), DetI (undef), DetI (undef), DetI (undef), DetI (undef), DetI (undef), DetI (undef), DetI (undef), DetI (undef), DetI (undef), DetI (undef), DetI (undef), DetI (undef), DetI (undef), DetI (undef), DetI (.bool (true))]) Try.follows rfl rfl rfl rfl rfl rfl (vgetI_stable ⟨StableI.det _, StableI.det _, StableI.det _, StableI.det _, StableI.det _, StableI.det _, StableI.det _, StableI.det _, StableI.det _, StableI.det _, StableI.det _, StableI.det _, StableI.det _, StableI.det _, StableI.det _, StableI.det _, StableI.det _, StableI.det _, StableI.det _, StableI.det _, StableI.det _, StableI.det _, StableI.det _, StableI.det _, StableI.det _, StableI.det _, StableI.det _, StableI.det _, StableI.det _, StableI.det _, StableI.det _, StableI.det _, StableI.det _, StableI.det _, StableI.det _, StableI.det _, trivial⟩) ⟨?_, ?_, ?_, ?_, ?_, ?_, ?_, ?_, ?_, ?_, ?_, ?_, ?_, ?_, ?_, ?_, ?_, ?_, ?_, ?_, ?_, ?_, ?_, ?_, ?_, ?_, ?_, ?_, ?_, ?_, ?_, ?_, ?_, ?_, ?_, ?_, trivial⟩ ?_
           ·exact fun _ _ h => os rfl ((yl_fieldAddr Try.fd152_0 rfl (h.old 6 _ rfl rfl) kI))
           ·exact fun _ _ h => os rfl ((yl_load1 Try.ty9 rfl (h.dt 0 52 rfl rfl rfl) (((Box.ex hB156 h.ex).cell 0).trans rfl) kI))
           ·intro L750 w751 hi752
            refine OpR.op' rfl (yl_call Try.en210 rfl (opvs_cons (hi752.dt 1 53 rfl rfl rfl) (opvs_cons rfl opvs_nil)) (Cal.mono (c_i_areLetters ((p_0.Idxs.getD k91 d_Idx).Name) 1 (okL.getD o3.2.2 ok_d_Idx _)) ?_))
            rintro v756 w755 ⟨rfl, hE757⟩
            exact ⟨rfl, hE757⟩
           ·exact fun _ _ h => os rfl ((yl_not rfl (h.dt 2 54 rfl rfl rfl) kI))
           ·exact fun _ _ h => os rfl ((yl_move rfl (h.dt 3 55 rfl rfl rfl) kI))
           ·exact fun _ _ h => OpR.want rfl rfl (h.dt 4 56 rfl rfl rfl) (not_t hb159) (Yl.sameI (yl_fieldAddr Try.fd152_1 rfl (h.old 6 _ rfl rfl) kI))
           ·exact fun _ _ h => OpR.want rfl rfl (h.dt 4 56 rfl rfl rfl) (not_t hb159) (Yl.sameI (yl_load1 Try.ty3 rfl (h.dt 5 57 rfl rfl rfl) (((Box.ex hB156 h.ex).cell 1).trans rfl) kI))
           ·exact fun _ _ h => OpR.want rfl rfl (h.dt 4 56 rfl rfl rfl) (not_t hb159) (Yl.sameI (yl_fieldAddr Try.fd65_1 rfl (h.old 1 _ rfl rfl) kI))
           ·intro L787 w788 hi789
            have hE790 := hi789.ex
            have hE790z := Ex.size hE790
            exact OpR.want rfl rfl (hi789.dt 4 56 rfl rfl rfl) (not_t hb159) (Yl.sameI (yl_load1 Try.ty52 rfl (hi789.dt 7 59 rfl rfl rfl) (((Box.ex (Box.only (Box.ex hf142 hE154) hO157 (by omega)) hE790).cell 1).trans rfl) kI))
           ·exact fun _ _ h => OpR.want rfl rfl (h.dt 4 56 rfl rfl rfl) (not_t hb159) (Yl.sameI (yl_len Try.un52 rfl (h.dt 8 60 rfl rfl rfl) kI))
           ·exact fun _ _ h => OpR.want rfl rfl (h.dt 4 56 rfl rfl rfl) (not_t hb159) (Yl.sameI (yl_sub rfl (h.dt 9 61 rfl rfl rfl) rfl kI))
           ·intro L806 w807 hi808
            refine OpR.want rfl rfl (hi808.dt 4 56 rfl rfl rfl) (not_t hb159) (yl_call Try.en142 rfl (opvs_cons (hi808.dt 6 58 rfl rfl rfl) (opvs_cons rfl (opvs_cons (hi808.dt 10 62 rfl rfl rfl) opvs_nil))) (Cal.mono (c_i_within ((p_0.Idxs.getD k91 d_Idx).Col) 1 (IntKind.wrap .i64 ((p_0.Cols.length : Int) - 1))) ?_))
            rintro v814 w813 ⟨rfl, hE815⟩
            exact ⟨rfl, hE815⟩
           ·exact fun _ _ h => OpR.want rfl rfl (h.dt 4 56 rfl rfl rfl) (not_t hb159) (Yl.sameI (yl_not rfl (h.dt 11 63 rfl rfl rfl) kI))
           ·exact fun _ _ h => os rfl ((yl_pick_f rfl (h.dt 4 56 rfl rfl rfl) (not_t hb159) (h.dt 12 64 rfl rfl rfl) kI))
           ·exact fun _ _ h => os rfl ((yl_move rfl (h.dt 13 65 rfl rfl rfl) kI))
           ·exact fun _ _ h => OpR.want rfl rfl (h.dt 14 66 rfl rfl rfl) (not_t hb164) (Yl.sameI (yl_fieldAddr Try.fd152_2 rfl (h.old 6 _ rfl rfl) kI))
           ·exact fun _ _ h => OpR.want rfl rfl (h.dt 14 66 rfl rfl rfl) (not_t hb164) (Yl.sameI (yl_load1 Try.ty3 rfl (h.dt 15 67 rfl rfl rfl) (((Box.ex hB156 h.ex).cell 2).trans rfl) kI))
           ·intro L846 w847 hi848
            refine OpR.want rfl rfl (hi848.dt 14 66 rfl rfl rfl) (not_t hb164) (yl_call Try.en212 rfl (opvs_cons (hi848.dt 16 68 rfl rfl rfl) opvs_nil) (Cal.mono (c_i_isStage ((p_0.Idxs.getD k91 d_Idx).Stage)) ?_))
            rintro v853 w852 ⟨rfl, hE854⟩
            exact ⟨rfl, hE854⟩
           ·exact fun _ _ h => OpR.want rfl rfl (h.dt 14 66 rfl rfl rfl) (not_t hb164) (Yl.sameI (yl_not rfl (h.dt 17 69 rfl rfl rfl) kI))
           ·exact fun _ _ h => os rfl ((yl_pick_f rfl (h.dt 14 66 rfl rfl rfl) (not_t hb164) (h.dt 18 70 rfl rfl rfl) kI))
           ·exact fun _ _ h => os rfl ((yl_move rfl (h.dt 19 71 rfl rfl rfl) kI))
           ·exact fun _ _ h => OpR.skip rfl rfl (h.dt 20 72 rfl rfl rfl) (not_f hb170) ⟨rfl, Ex.refl _⟩
           ·exact fun _ _ h => OpR.skip rfl rfl (h.dt 20 72 rfl rfl rfl) (not_f hb170) ⟨rfl, Ex.refl _⟩
           ·exact fun _ _ h => OpR.skip rfl rfl (h.dt 20 72 rfl rfl rfl) (not_f hb170) ⟨rfl, Ex.refl _⟩
           ·exact fun _ _ h => OpR.undef rfl rfl (h.dt 23 75 rfl rfl rfl) ⟨rfl, Ex.refl _⟩
           ·exact fun _ _ h => OpR.undef rfl rfl (h.dt 23 75 rfl rfl rfl) ⟨rfl, Ex.refl _⟩
           ·exact fun _ _ h => OpR.undef rfl rfl (h.dt 23 75 rfl rfl rfl) ⟨rfl, Ex.refl _⟩
           ·exact fun _ _ h => OpR.undef rfl rfl (h.dt 23 75 rfl rfl rfl) ⟨rfl, Ex.refl _⟩
           ·exact fun _ _ h => OpR.undef rfl rfl (h.dt 23 75 rfl rfl rfl) ⟨rfl, Ex.refl _⟩
           ·exact fun _ _ h => OpR.undef rfl rfl (h.dt 23 75 rfl rfl rfl) ⟨rfl, Ex.refl _⟩
           ·exact fun _ _ h => OpR.undef rfl rfl (h.dt 23 75 rfl rfl rfl) ⟨rfl, Ex.refl _⟩
           ·exact fun _ _ h => OpR.undef rfl rfl (h.dt 23 75 rfl rfl rfl) ⟨rfl, Ex.refl _⟩
           ·exact fun _ _ h => OpR.undef rfl rfl (h.dt 23 75 rfl rfl rfl) ⟨rfl, Ex.refl _⟩
           ·exact fun _ _ h => OpR.undef rfl rfl (h.dt 23 75 rfl rfl rfl) ⟨rfl, Ex.refl _⟩
           ·exact fun _ _ h => OpR.skip rfl rfl (h.dt 20 72 rfl rfl rfl) (not_f hb170) ⟨rfl, Ex.refl _⟩
           ·exact fun _ _ h => os rfl ((yl_pick_t rfl (h.dt 20 72 rfl rfl rfl) (not_f hb170) rfl kI))
           ·intro fl951 fh952 L948 w949 hp950
            have hE953 := hp950.ex
            have hE953z := Ex.size hE953
            refine SeqR.done (tn (CW.sub (Sub.cons (d := 1) (hp950.old 1 _ rfl rfl) (Sub.cons (d := 45) (hp950.old 45 _ rfl rfl) (Sub.cons (d := 46) (hp950.old 46 _ rfl rfl) (Sub.cons (d := 47) (hp950.old 47 _ rfl rfl) (Sub.cons (d := 57) (hp950.nt 5 57 rfl rfl rfl) (Sub.cons (d := 58) (hp950.nt 6 58 rfl rfl rfl) (Sub.cons (d := 59) (hp950.nt 7 59 rfl rfl rfl) (Sub.cons (d := 60) (hp950.nt 8 60 rfl rfl rfl) (Sub.cons (d := 61) (hp950.nt 9 61 rfl rfl rfl) (Sub.cons (d := 62) (hp950.nt 10 62 rfl rfl rfl) (Sub.cons (d := 63) (hp950.nt 11 63 rfl rfl rfl) (Sub.cons (d := 64) (hp950.nt 12 64 rfl rfl rfl) (Sub.cons (d := 67) (hp950.nt 15 67 rfl rfl rfl) (Sub.cons (d := 68) (hp950.nt 16 68 rfl rfl rfl) (Sub.cons (d := 69) (hp950.nt 17 69 rfl rfl rfl) (Sub.cons (d := 70) (hp950.nt 18 70 rfl rfl rfl) (Sub.cons (d := 73) (hp950.nt 21 73 rfl rfl rfl) (Sub.cons (d := 74) (hp950.nt 22 74 rfl rfl rfl) (Sub.cons (d := 75) (hp950.nt 23 75 rfl rfl rfl) (Sub.cons (d := 76) (hp950.nt 24 76 rfl rfl rfl) (Sub.cons (d := 77) (hp950.nt 25 77 rfl rfl rfl) (Sub.cons (d := 78) (hp950.nt 26 78 rfl rfl rfl) (Sub.cons (d := 79) (hp950.nt 27 79 rfl rfl rfl) (Sub.cons (d := 80) (hp950.nt 28 80 rfl rfl rfl) (Sub.cons (d := 81) (hp950.nt 29 81 rfl rfl rfl) (Sub.cons (d := 82) (hp950.nt 30 82 rfl rfl rfl) (Sub.cons (d := 83) (hp950.nt 31 83 rfl rfl rfl) (Sub.cons (d := 84) (hp950.nt 32 84 rfl rfl rfl) (Sub.cons (d := 85) (hp950.nt 33 85 rfl rfl rfl) (Sub.cons (d := 86) (hp950.nt 34 86 rfl rfl rfl) (Sub.cons (d := 87) (hp950.nt 35 87 rfl rfl rfl) (Sub.nil _)))))))))))))))))))))))))))))))) ?_))
            refine CW.cond_t rfl rfl (CW.seq (CW.region (sd rfl (yl_assign rfl rfl (SeqR.done (tn (CW.ret (br (tr ?_)))))))))
            refine tr ?_
            have hB986 : B_i_GoodTable_1 p_0 k91 () = .ret false := by simp only [B_i_GoodTable_1, hb16, hb21, hb23, hb159, hb164, hb170, hL90, cond_true, cond_false, loopE_done, loopE_ret]
            have hL985 : loopM (B_i_GoodTable_1 p_0) (p_0.Idxs.length - 0) 0 () = .ret false := hI136.symm.trans (loopM.ret hlt147 hB986)
            refine br (tr (rr rfl (.cons rfl .nil) ?_))
            have hM987 : (i_GoodTable p_0) = (false) := by simp only [i_GoodTable, hb16, hb21, hb23, hb159, hb164, hb170, hL90, hL985, cond_true, cond_false, loopE_done, loopE_ret]
            rw [hM987]
            exact ⟨rfl, (Ex.trans (Below.only (Ex.trans hf145 hE154) hO157 (by omega)) hE953)⟩
         ·refine CW.drawsI 36 (vgetI [DetI (.pointer (some ⟨b149, 0 + 0, none⟩)), DetI (.string (bs ((p_0.Idxs.getD k91 d_Idx).Name))), DetI (.bool ((i_areLetters ((p_0.Idxs.getD k91 d_Idx).Name) 1))), DetI (.bool (!(i_areLetters ((p_0.Idxs.getD k91 d_Idx).Name) 1))), DetI (.bool (!(i_areLetters ((p_0.Idxs.getD k91 d_Idx).Name) 1))), DetI (.pointer (some ⟨b149, 0 + 1, none⟩)), DetI (.int .i64 ((p_0.Idxs.getD k91 d_Idx).Col)), DetI (.pointer (some ⟨b7, 0 + 1, none⟩)), DetI (.slice A1 p_0.Cols.length c1), DetI (.int .i64 ((p_0.Cols.length : Int))), DetI (.int .i64 (IntKind.wrap .i64 ((p_0.Cols.length : Int) - 1))), DetI (.bool ((i_within ((p_0.Idxs.getD k91 d_Idx).Col) 1 (IntKind.wrap .i64 ((p_0.Cols.length : Int) - 1))))), DetI (.bool (!(i_within ((p_0.Idxs.getD k91 d_Idx).Col) 1 (IntKind.wrap .i64 ((p_0.Cols.length : Int) - 1))))), DetI (.bool (!(i_within ((p_0.Idxs.getD k91 d_Idx).Col) 1 (IntKind.wrap .i64 ((p_0.Cols.length : Int) - 1))))), DetI (.bool (!(i_within ((p_0.Idxs.getD k91 d_Idx).Col) 1 (IntKind.wrap .i64 ((p_0.Cols.length : Int) - 1))))), DetI (undef), DetI (undef), DetI (undef), DetI (undef), DetI (.bool (true)), DetI (.bool (true)), DetI (undef), DetI (undef), DetI (undef), DetI (undef), DetI (undef), DetI (undef), DetI (undef), DetI (undef), DetI (undef), DetI (undef), DetI (undef), DetI (undef), DetI (undef), DetI (undef), DetI (.bool (true))]) Try.follows rfl rfl rfl rfl rfl rfl (vgetI_stable ⟨StableI.det _, StableI.det _, StableI.det _, StableI.det _, StableI.det _, StableI.det _, StableI.det _, StableI.det _, StableI.det _, StableI.det _, StableI.det _, StableI.det _, StableI.det _, StableI.det _, StableI.det _, StableI.det _, StableI.det _, StableI.det _, StableI.det _, StableI.det _, StableI.det _, StableI.det _, StableI.det _, StableI.det _, StableI.det _, StableI.det _, StableI.det _, StableI.det _, StableI.det _, StableI.det _, StableI.det _, StableI.det _, StableI.det _, StableI.det _, StableI.det _, StableI.det _, trivial⟩) ⟨?_, ?_, ?_, ?_, ?_, ?_, ?_, ?_, ?_, ?_, ?_, ?_, ?_, ?_, ?_, ?_, ?_, ?_, ?_, ?_, ?_, ?_, ?_, ?_, ?_, ?_, ?_, ?_, ?_, ?_, ?_, ?_, ?_, ?_, ?_, ?_, trivial⟩ ?_
          ·exact fun _ _ h => os rfl ((yl_fieldAddr Try.fd152_0 rfl (h.old 6 _ rfl rfl) kI))
          ·exact fun _ _ h => os rfl ((yl_load1 Try.ty9 rfl (h.dt 0 52 rfl rfl rfl) (((Box.ex hB156 h.ex).cell 0).trans rfl) kI))
          ·intro L1006 w1007 hi1008
           refine OpR.op' rfl (yl_call Try.en210 rfl (opvs_cons (hi1008.dt 1 53 rfl rfl rfl) (opvs_cons rfl opvs_nil)) (Cal.mono (c_i_areLetters ((p_0.Idxs.getD k91 d_Idx).Name) 1 (okL.getD o3.2.2 ok_d_Idx _)) ?_))
           rintro v1012 w1011 ⟨rfl, hE1013⟩
           exact ⟨rfl, hE1013⟩
          ·exact fun _ _ h => os rfl ((yl_not rfl (h.dt 2 54 rfl rfl rfl) kI))
          ·exact fun _ _ h => os rfl ((yl_move rfl (h.dt 3 55 rfl rfl rfl) kI))
          ·exact fun _ _ h => OpR.want rfl rfl (h.dt 4 56 rfl rfl rfl) (not_t hb159) (Yl.sameI (yl_fieldAddr Try.fd152_1 rfl (h.old 6 _ rfl rfl) kI))
          ·exact fun _ _ h => OpR.want rfl rfl (h.dt 4 56 rfl rfl rfl) (not_t hb159) (Yl.sameI (yl_load1 Try.ty3 rfl (h.dt 5 57 rfl rfl rfl) (((Box.ex hB156 h.ex).cell 1).trans rfl) kI))
          ·exact fun _ _ h => OpR.want rfl rfl (h.dt 4 56 rfl rfl rfl) (not_t hb159) (Yl.sameI (yl_fieldAddr Try.fd65_1 rfl (h.old 1 _ rfl rfl) kI))
          ·intro L1043 w1044 hi1045
           have hE1046 := hi1045.ex
           have hE1046z := Ex.size hE1046
           exact OpR.want rfl rfl (hi1045.dt 4 56 rfl rfl rfl) (not_t hb159) (Yl.sameI (yl_load1 Try.ty52 rfl (hi1045.dt 7 59 rfl rfl rfl) (((Box.ex (Box.only (Box.ex hf142 hE154) hO157 (by omega)) hE1046).cell 1).trans rfl) kI))
          ·exact fun _ _ h => OpR.want rfl rfl (h.dt 4 56 rfl rfl rfl) (not_t hb159) (Yl.sameI (yl_len Try.un52 rfl (h.dt 8 60 rfl rfl rfl) kI))
          ·exact fun _ _ h => OpR.want rfl rfl (h.dt 4 56 rfl rfl rfl) (not_t hb159) (Yl.sameI (yl_sub rfl (h.dt 9 61 rfl rfl rfl) rfl kI))
          ·intro L1062 w1063 hi1064
           refine OpR.want rfl rfl (hi1064.dt 4 56 rfl rfl rfl) (not_t hb159) (yl_call Try.en142 rfl (opvs_cons (hi1064.dt 6 58 rfl rfl rfl) (opvs_cons rfl (opvs_cons (hi1064.dt 10 62 rfl rfl rfl) opvs_nil))) (Cal.mono (c_i_within ((p_0.Idxs.getD k91 d_Idx).Col) 1 (IntKind.wrap .i64 ((p_0.Cols.length : Int) - 1))) ?_))
           rintro v1070 w1069 ⟨rfl, hE1071⟩
           exact ⟨rfl, hE1071⟩
          ·exact fun _ _ h => OpR.want rfl rfl (h.dt 4 56 rfl rfl rfl) (not_t hb159) (Yl.sameI (yl_not rfl (h.dt 11 63 rfl rfl rfl) kI))
          ·exact fun _ _ h => os rfl ((yl_pick_f rfl (h.dt 4 56 rfl rfl rfl) (not_t hb159) (h.dt 12 64 rfl rfl rfl) kI))
          ·exact fun _ _ h => os rfl ((yl_move rfl (h.dt 13 65 rfl rfl rfl) kI))
          ·exact fun _ _ h => OpR.skip rfl rfl (h.dt 14 66 rfl rfl rfl) (not_f hb164) ⟨rfl, Ex.refl _⟩
          ·exact fun _ _ h => OpR.skip rfl rfl (h.dt 14 66 rfl rfl rfl) (not_f hb164) ⟨rfl, Ex.refl _⟩
          ·exact fun _ _ h => OpR.skip rfl rfl (h.dt 14 66 rfl rfl rfl) (not_f hb164) ⟨rfl, Ex.refl _⟩
          ·exact fun _ _ h => OpR.skip rfl rfl (h.dt 14 66 rfl rfl rfl) (not_f hb164) ⟨rfl, Ex.refl _⟩
          ·exact fun _ _ h => os rfl ((yl_pick_t rfl (h.dt 14 66 rfl rfl rfl) (not_f hb164) rfl kI))
          ·exact fun _ _ h => os rfl ((yl_move rfl (h.dt 19 71 rfl rfl rfl) kI))
          ·exact fun _ _ h => OpR.skip rfl rfl (h.dt 20 72 rfl rfl rfl) rfl ⟨rfl, Ex.refl _⟩
          ·exact fun _ _ h => OpR.skip rfl rfl (h.dt 20 72 rfl rfl rfl) rfl ⟨rfl, Ex.refl _⟩
          ·exact fun _ _ h => OpR.skip rfl rfl (h.dt 20 72 rfl rfl rfl) rfl ⟨rfl, Ex.refl _⟩
          ·exact fun _ _ h => OpR.undef rfl rfl (h.dt 23 75 rfl rfl rfl) ⟨rfl, Ex.refl _⟩
          ·exact fun _ _ h => OpR.undef rfl rfl (h.dt 23 75 rfl rfl rfl) ⟨rfl, Ex.refl _⟩
          ·exact fun _ _ h => OpR.undef rfl rfl (h.dt 23 75 rfl rfl rfl) ⟨rfl, Ex.refl _⟩
          ·exact fun _ _ h => OpR.undef rfl rfl (h.dt 23 75 rfl rfl rfl) ⟨rfl, Ex.refl _⟩
          ·exact fun _ _ h => OpR.undef rfl rfl (h.dt 23 75 rfl rfl rfl) ⟨rfl, Ex.refl _⟩
          ·exact fun _ _ h => OpR.undef rfl rfl (h.dt 23 75 rfl rfl rfl) ⟨rfl, Ex.refl _⟩
          ·exact fun _ _ h => OpR.undef rfl rfl (h.dt 23 75 rfl rfl rfl) ⟨rfl, Ex.refl _⟩
          ·exact fun _ _ h => OpR.undef rfl rfl (h.dt 23 75 rfl rfl rfl) ⟨rfl, Ex.refl _⟩
          ·exact fun _ _ h => OpR.undef rfl rfl (h.dt 23 75 rfl rfl rfl) ⟨rfl, Ex.refl _⟩
          ·exact fun _ _ h => OpR.undef rfl rfl (h.dt 23 75 rfl rfl rfl) ⟨rfl, Ex.refl _⟩
          ·exact fun _ _ h => OpR.skip rfl rfl (h.dt 20 72 rfl rfl rfl) rfl ⟨rfl, Ex.refl _⟩
          ·exact fun _ _ h => os rfl ((yl_pick_t rfl (h.dt 20 72 rfl rfl rfl) rfl rfl kI))
          ·intro fl1199 fh1200 L1196 w1197 hp1198
           have hE1201 := hp1198.ex
           have hE1201z := Ex.size hE1201
           refine SeqR.done (tn (CW.sub (Sub.cons (d := 1) (hp1198.old 1 _ rfl rfl) (Sub.cons (d := 45) (hp1198.old 45 _ rfl rfl) (Sub.cons (d := 46) (hp1198.old 46 _ rfl rfl) (Sub.cons (d := 47) (hp1198.old 47 _ rfl rfl) (Sub.cons (d := 57) (hp1198.nt 5 57 rfl rfl rfl) (Sub.cons (d := 58) (hp1198.nt 6 58 rfl rfl rfl) (Sub.cons (d := 59) (hp1198.nt 7 59 rfl rfl rfl) (Sub.cons (d := 60) (hp1198.nt 8 60 rfl rfl rfl) (Sub.cons (d := 61) (hp1198.nt 9 61 rfl rfl rfl) (Sub.cons (d := 62) (hp1198.nt 10 62 rfl rfl rfl) (Sub.cons (d := 63) (hp1198.nt 11 63 rfl rfl rfl) (Sub.cons (d := 64) (hp1198.nt 12 64 rfl rfl rfl) (Sub.cons (d := 67) (hp1198.nt 15 67 rfl rfl rfl) (Sub.cons (d := 68) (hp1198.nt 16 68 rfl rfl rfl) (Sub.cons (d := 69) (hp1198.nt 17 69 rfl rfl rfl) (Sub.cons (d := 70) (hp1198.nt 18 70 rfl rfl rfl) (Sub.cons (d := 73) (hp1198.nt 21 73 rfl rfl rfl) (Sub.cons (d := 74) (hp1198.nt 22 74 rfl rfl rfl) (Sub.cons (d := 75) (hp1198.nt 23 75 rfl rfl rfl) (Sub.cons (d := 76) (hp1198.nt 24 76 rfl rfl rfl) (Sub.cons (d := 77) (hp1198.nt 25 77 rfl rfl rfl) (Sub.cons (d := 78) (hp1198.nt 26 78 rfl rfl rfl) (Sub.cons (d := 79) (hp1198.nt 27 79 rfl rfl rfl) (Sub.cons (d := 80) (hp1198.nt 28 80 rfl rfl rfl) (Sub.cons (d := 81) (hp1198.nt 29 81 rfl rfl rfl) (Sub.cons (d := 82) (hp1198.nt 30 82 rfl rfl rfl) (Sub.cons (d := 83) (hp1198.nt 31 83 rfl rfl rfl) (Sub.cons (d := 84) (hp1198.nt 32 84 rfl rfl rfl) (Sub.cons (d := 85) (hp1198.nt 33 85 rfl rfl rfl) (Sub.cons (d := 86) (hp1198.nt 34 86 rfl rfl rfl) (Sub.cons (d := 87) (hp1198.nt 35 87 rfl rfl rfl) (Sub.nil _)))))))))))))))))))))))))))))))) ?_))
           refine CW.cond_t rfl rfl (CW.seq (CW.region (sd rfl (yl_assign rfl rfl (SeqR.done (tn (CW.ret (br (tr ?_)))))))))
           refine tr ?_
           have hB1234 : B_i_GoodTable_1 p_0 k91 () = .ret false := by simp only [B_i_GoodTable_1, hb16, hb21, hb23, hb159, hb164, hL90, cond_true, cond_false, loopE_done, loopE_ret]
           have hL1233 : loopM (B_i_GoodTable_1 p_0) (p_0.Idxs.length - 0) 0 () = .ret false := hI136.symm.trans (loopM.ret hlt147 hB1234)
           refine br (tr (rr rfl (.cons rfl .nil) ?_))
           have hM1235 : (i_GoodTable p_0) = (false) := by simp only [i_GoodTable, hb16, hb21, hb23, hb159, hb164, hL90, hL1233, cond_true, cond_false, loopE_done, loopE_ret]
           rw [hM1235]
           exact ⟨rfl, (Ex.trans (Below.only (Ex.trans hf145 hE154) hO157 (by omega)) hE1201)⟩
        ·refine CW.drawsI 36 (vgetI [DetI (.pointer (some ⟨b149, 0 + 0, none⟩)), DetI (.string (bs ((p_0.Idxs.getD k91 d_Idx).Name))), DetI (.bool ((i_areLetters ((p_0.Idxs.getD k91 d_Idx).Name) 1))), DetI (.bool (!(i_areLetters ((p_0.Idxs.getD k91 d_Idx).Name) 1))), DetI (.bool (!(i_areLetters ((p_0.Idxs.getD k91 d_Idx).Name) 1))), DetI (undef), DetI (undef), DetI (undef), DetI (undef), DetI (undef), DetI (undef), DetI (undef), DetI (undef), DetI (.bool (true)), DetI (.bool (true)), DetI (undef), DetI (undef), DetI (undef), DetI (undef), DetI (.bool (true)), DetI (.bool (true)), DetI (undef), DetI (undef), DetI (undef), DetI (undef), DetI (undef), DetI (undef), DetI (undef), DetI (undef), DetI (undef), DetI (undef), DetI (undef), DetI (undef), DetI (undef), DetI (undef), DetI (.bool (true))]) Try.follows rfl rfl rfl rfl rfl rfl (vgetI_stable ⟨StableI.det _, StableI.det _, StableI.det _, StableI.det _, StableI.det _, StableI.det _, StableI.det _, StableI.det _, StableI.det _, StableI.det _, StableI.det _, StableI.det _, StableI.det _, StableI.det _, StableI.det _, StableI.det _, StableI.det _, StableI.det _, StableI.det _, StableI.det _, StableI.det _, StableI.det _, StableI.det _, StableI.det _, StableI.det _, StableI.det _, StableI.det _, StableI.det _, StableI.det _, StableI.det _, StableI.det _, StableI.det _, StableI.det _, StableI.det _, StableI.det _, StableI.det _, trivial⟩) ⟨?_, ?_, ?_, ?_, ?_, ?_, ?_, ?_, ?_, ?_, ?_, ?_, ?_, ?_, ?_, ?_, ?_, ?_, ?_, ?_, ?_, ?_, ?_, ?_, ?_, ?_, ?_, ?_, ?_, ?_, ?_, ?_, ?_, ?_, ?_, ?_, trivial⟩ ?_
         ·exact fun _ _ h => os rfl ((yl_fieldAddr Try.fd152_0 rfl (h.old 6 _ rfl rfl) kI))
         ·exact fun _ _ h => os rfl ((yl_load1 Try.ty9 rfl (h.dt 0 52 rfl rfl rfl) (((Box.ex hB156 h.ex).cell 0).trans rfl) kI))
         ·intro L1251 w1252 hi1253
          refine OpR.op' rfl (yl_call Try.en210 rfl (opvs_cons (hi1253.dt 1 53 rfl rfl rfl) (opvs_cons rfl opvs_nil)) (Cal.mono (c_i_areLetters ((p_0.Idxs.getD k91 d_Idx).Name) 1 (okL.getD o3.2.2 ok_d_Idx _)) ?_))
          rintro v1257 w1256 ⟨rfl, hE1258⟩
          exact ⟨rfl, hE1258⟩
         ·exact fun _ _ h => os rfl ((yl_not rfl (h.dt 2 54 rfl rfl rfl) kI))
         ·exact fun _ _ h => os rfl ((yl_move rfl (h.dt 3 55 rfl rfl rfl) kI))
         ·exact fun _ _ h => OpR.skip rfl rfl (h.dt 4 56 rfl rfl rfl) (not_f hb159) ⟨rfl, Ex.refl _⟩
         ·exact fun _ _ h => OpR.skip rfl rfl (h.dt 4 56 rfl rfl rfl) (not_f hb159) ⟨rfl, Ex.refl _⟩
         ·exact fun _ _ h => OpR.skip rfl rfl (h.dt 4 56 rfl rfl rfl) (not_f hb159) ⟨rfl, Ex.refl _⟩
         ·exact fun _ _ h => OpR.skip rfl rfl (h.dt 4 56 rfl rfl rfl) (not_f hb159) ⟨rfl, Ex.refl _⟩
         ·exact fun _ _ h => OpR.skip rfl rfl (h.dt 4 56 rfl rfl rfl) (not_f hb159) ⟨rfl, Ex.refl _⟩
         ·exact fun _ _ h => OpR.skip rfl rfl (h.dt 4 56 rfl rfl rfl) (not_f hb159) ⟨rfl, Ex.refl _⟩
         ·exact fun _ _ h => OpR.skip rfl rfl (h.dt 4 56 rfl rfl rfl) (not_f hb159) ⟨rfl, Ex.refl _⟩
         ·exact fun _ _ h => OpR.skip rfl rfl (h.dt 4 56 rfl rfl rfl) (not_f hb159) ⟨rfl, Ex.refl _⟩
         ·exact fun _ _ h => os rfl ((yl_pick_t rfl (h.dt 4 56 rfl rfl rfl) (not_f hb159) rfl kI))
         ·exact fun _ _ h => os rfl ((yl_move rfl (h.dt 13 65 rfl rfl rfl) kI))
         ·exact fun _ _ h => OpR.skip rfl rfl (h.dt 14 66 rfl rfl rfl) rfl ⟨rfl, Ex.refl _⟩
         ·exact fun _ _ h => OpR.skip rfl rfl (h.dt 14 66 rfl rfl rfl) rfl ⟨rfl, Ex.refl _⟩
         ·exact fun _ _ h => OpR.skip rfl rfl (h.dt 14 66 rfl rfl rfl) rfl ⟨rfl, Ex.refl _⟩
         ·exact fun _ _ h => OpR.skip rfl rfl (h.dt 14 66 rfl rfl rfl) rfl ⟨rfl, Ex.refl _⟩
         ·exact fun _ _ h => os rfl ((yl_pick_t rfl (h.dt 14 66 rfl rfl rfl) rfl rfl kI))
         ·exact fun _ _ h => os rfl ((yl_move rfl (h.dt 19 71 rfl rfl rfl) kI))
         ·exact fun _ _ h => OpR.skip rfl rfl (h.dt 20 72 rfl rfl rfl) rfl ⟨rfl, Ex.refl _⟩
         ·exact fun _ _ h => OpR.skip rfl rfl (h.dt 20 72 rfl rfl rfl) rfl ⟨rfl, Ex.refl _⟩
         ·exact fun _ _ h => OpR.skip rfl rfl (h.dt 20 72 rfl rfl rfl) rfl ⟨rfl, Ex.refl _⟩
         ·exact fun _ _ h => OpR.undef rfl rfl (h.dt 23 75 rfl rfl rfl) ⟨rfl, Ex.refl _⟩
         ·exact fun _ _ h => OpR.undef rfl rfl (h.dt 23 75 rfl rfl rfl) ⟨rfl, Ex.refl _⟩
         ·exact fun _ _ h => OpR.undef rfl rfl (h.dt 23 75 rfl rfl rfl) ⟨rfl, Ex.refl _⟩
         ·exact fun _ _ h => OpR.undef rfl rfl (h.dt 23 75 rfl rfl rfl) ⟨rfl, Ex.refl _⟩
         ·exact fun _ _ h => OpR.undef rfl rfl (h.dt 23 75 rfl rfl rfl) ⟨rfl, Ex.refl _⟩
         ·exact fun _ _ h => OpR.undef rfl rfl (h.dt 23 75 rfl rfl rfl) ⟨rfl, Ex.refl _⟩
         ·exact fun _ _ h => OpR.undef rfl rfl (h.dt 23 75 rfl rfl rfl) ⟨rfl, Ex.refl _⟩
         ·exact fun _ _ h => OpR.undef rfl rfl (h.dt 23 75 rfl rfl rfl) ⟨rfl, Ex.refl _⟩
         ·exact fun _ _ h => OpR.undef rfl rfl (h.dt 23 75 rfl rfl rfl) ⟨rfl, Ex.refl _⟩
         ·exact fun _ _ h => OpR.undef rfl rfl (h.dt 23 75 rfl rfl rfl) ⟨rfl, Ex.refl _⟩
         ·exact fun _ _ h => OpR.skip rfl rfl (h.dt 20 72 rfl rfl rfl) rfl ⟨rfl, Ex.refl _⟩
         ·exact fun _ _ h => os rfl ((yl_pick_t rfl (h.dt 20 72 rfl rfl rfl) rfl rfl kI))
         ·intro fl1430 fh1431 L1427 w1428 hp1429
          have hE1432 := hp1429.ex
          have hE1432z := Ex.size hE1432
          refine SeqR.done (tn (CW.sub (Sub.cons (d := 1) (hp1429.old 1 _ rfl rfl) (Sub.cons (d := 45) (hp1429.old 45 _ rfl rfl) (Sub.cons (d := 46) (hp1429.old 46 _ rfl rfl) (Sub.cons (d := 47) (hp1429.old 47 _ rfl rfl) (Sub.cons (d := 57) (hp1429.nt 5 57 rfl rfl rfl) (Sub.cons (d := 58) (hp1429.nt 6 58 rfl rfl rfl) (Sub.cons (d := 59) (hp1429.nt 7 59 rfl rfl rfl) (Sub.cons (d := 60) (hp1429.nt 8 60 rfl rfl rfl) (Sub.cons (d := 61) (hp1429.nt 9 61 rfl rfl rfl) (Sub.cons (d := 62) (hp1429.nt 10 62 rfl rfl rfl) (Sub.cons (d := 63) (hp1429.nt 11 63 rfl rfl rfl) (Sub.cons (d := 64) (hp1429.nt 12 64 rfl rfl rfl) (Sub.cons (d := 67) (hp1429.nt 15 67 rfl rfl rfl) (Sub.cons (d := 68) (hp1429.nt 16 68 rfl rfl rfl) (Sub.cons (d := 69) (hp1429.nt 17 69 rfl rfl rfl) (Sub.cons (d := 70) (hp1429.nt 18 70 rfl rfl rfl) (Sub.cons (d := 73) (hp1429.nt 21 73 rfl rfl rfl) (Sub.cons (d := 74) (hp1429.nt 22 74 rfl rfl rfl) (Sub.cons (d := 75) (hp1429.nt 23 75 rfl rfl rfl) (Sub.cons (d := 76) (hp1429.nt 24 76 rfl rfl rfl) (Sub.cons (d := 77) (hp1429.nt 25 77 rfl rfl rfl) (Sub.cons (d := 78) (hp1429.nt 26 78 rfl rfl rfl) (Sub.cons (d := 79) (hp1429.nt 27 79 rfl rfl rfl) (Sub.cons (d := 80) (hp1429.nt 28 80 rfl rfl rfl) (Sub.cons (d := 81) (hp1429.nt 29 81 rfl rfl rfl) (Sub.cons (d := 82) (hp1429.nt 30 82 rfl rfl rfl) (Sub.cons (d := 83) (hp1429.nt 31 83 rfl rfl rfl) (Sub.cons (d := 84) (hp1429.nt 32 84 rfl rfl rfl) (Sub.cons (d := 85) (hp1429.nt 33 85 rfl rfl rfl) (Sub.cons (d := 86) (hp1429.nt 34 86 rfl rfl rfl) (Sub.cons (d := 87) (hp1429.nt 35 87 rfl rfl rfl) (Sub.nil _)))))))))))))))))))))))))))))))) ?_))
          refine CW.cond_t rfl rfl (CW.seq (CW.region (sd rfl (yl_assign rfl rfl (SeqR.done (tn (CW.ret (br (tr ?_)))))))))
          refine tr ?_
          have hB1465 : B_i_GoodTable_1 p_0 k91 () = .ret false := by simp only [B_i_GoodTable_1, hb16, hb21, hb23, hb159, hL90, cond_true, cond_false, loopE_done, loopE_ret]
          have hL1464 : loopM (B_i_GoodTable_1 p_0) (p_0.Idxs.length - 0) 0 () = .ret false := hI136.symm.trans (loopM.ret hlt147 hB1465)
          refine br (tr (rr rfl (.cons rfl .nil) ?_))
          have hM1466 : (i_GoodTable p_0) = (false) := by simp only [i_GoodTable, hb16, hb21, hb23, hb159, hL90, hL1464, cond_true, cond_false, loopE_done, loopE_ret]
          rw [hM1466]
          exact ⟨rfl, (Ex.trans (Below.only (Ex.trans hf145 hE154) hO157 (by omega)) hE1432)⟩
       ·refine CW.seq (CW.region (sd rfl (yl_lss rfl rfl rfl (SeqR.done (tn (CW.seq (CW.cond_f rfl (lt_f hlt147) (CW.exit (tx ?_)))))))))
        refine tx ?_
        have hL1470 : loopM (B_i_GoodTable_1 p_0) (p_0.Idxs.length - 0) 0 () = .done () := hI136.symm.trans (loopM.stop hlt147)
        refine bx (tn (CW.seq (CW.region (sd rfl (yl_assign rfl rfl (SeqR.done (tn (CW.ret (rr rfl (.cons rfl .nil) ?_)))))))))
        have hM1471 : (i_GoodTable p_0) = (true) := by simp only [i_GoodTable, hb16, hb21, hb23, hL90, hL1470, cond_true, cond_false, loopE_done, loopE_ret]
        rw [hM1471]
        exact ⟨rfl, hf145⟩
  ·refine sz rfl rfl (not_f hb21) (sz rfl rfl (not_f hb21) (sz rfl rfl (not_f hb21) (sz rfl rfl (not_f hb21) (sd rfl (yl_pick_t rfl rfl (not_f hb21) rfl (SeqR.done (tn (CW.cond_t rfl rfl (CW.seq ?_)))))))))
   refine CW.region (sd rfl (yl_assign rfl rfl (SeqR.done (tn (CW.ret (tr (rr rfl (.cons rfl .nil) ?_)))))))
   have hM1472 : (i_GoodTable p_0) = (false) := by simp only [i_GoodTable, hb16, hb21, cond_true, cond_false, loopE_done, loopE_ret]
   rw [hM1472]
   exact ⟨rfl, (Ex.trans (Ex.trans (Ex.trans (Ex.refl w) hE12) hE15) hE20)⟩
 ·refine sz rfl rfl (not_f hb16) (sz rfl rfl (not_f hb16) (sz rfl rfl (not_f hb16) (sz rfl rfl (not_f hb16) (sz rfl rfl (not_f hb16) (sd rfl (yl_pick_t rfl rfl (not_f hb16) rfl (sd rfl (yl_move rfl rfl (sz rfl rfl rfl (sz rfl rfl rfl ?_))))))))))
  refine sz rfl rfl rfl (sz rfl rfl rfl (sd rfl (yl_pick_t rfl rfl rfl rfl (SeqR.done (tn (CW.cond_t rfl rfl (CW.seq (CW.region (sd rfl (yl_assign rfl rfl ?_))))))))))
  refine SeqR.done (tn (CW.ret (tr (rr rfl (.cons rfl .nil) ?_))))
  have hM1476 : (i_GoodTable p_0) = (false) := by simp only [i_GoodTable, hb16, cond_true, cond_false, loopE_done, loopE_ret]
  rw [hM1476]
  exact ⟨rfl, (Ex.trans (Ex.trans (Ex.refl w) hE12) hE15)⟩
set_option maxRecDepth 100000 in
set_option maxHeartbeats 2000000 in
theorem c_g_slices_IndexFunc_string {A1 : Option Addr} {c1 : Nat} {g3 : Nat} {cp4 : List Value} {w : World} (p_s : List Str) (p_f : Str → Bool) (h1 : RdS w (Iv 0 w.heap.size) (RF e_Str) 1 A1 p_s.length c1 p_s) (hen5 : Go.X.Enters Try.prog g3) (hfn6 : ∀ (w1 : World) (y0 : Str), Ex w w1 → y0 ∈ p_s → okS y0 → Cal Try.prog g3 (([.string (bs (y0))] : List Value) ++ cp4).toArray w1 fun v w2 => v = .bool (p_f y0) ∧ Ex w1 w2) (o2 : (okL okS) p_s) : Cal Try.prog 239 #[.slice A1 p_s.length c1, .func (.func g3) #[] cp4.toArray] w fun v w' => v = .int .i64 ((g_slices_IndexFunc_string p_s p_f)) ∧ Ex w w' := by
 have hol7 := o2.1
 refine Cal.of (vs := [.slice A1 p_s.length c1, .func (.func g3) #[] cp4.toArray]) Try.func239 rfl Try.ntmps239 rfl (CW.seq (CW.region (sd rfl (yl_assign rfl rfl (SeqR.done (tn (CW.seq (CW.seq (CW.region ?_)))))))))
 refine sd rfl (yl_move rfl rfl (sd rfl (yl_len Try.un52 rfl rfl (sd rfl (yl_move rfl rfl (SeqR.done (tn (CW.block (CW.loop (fun m9 L10 w11 => ∃ (k8 : Nat), m9 = p_s.length - k8 ∧ k8 ≤ p_s.length ∧ w.heap.size ≤ w11.heap.size ∧ lkp L10 0 = some (.slice A1 p_s.length c1) ∧ lkp L10 1 = some (.func (.func g3) #[] cp4.toArray) ∧ lkp L10 7 = some (.int .i64 ((p_s.length : Int))) ∧ lkp L10 8 = some (.int .i64 ((k8 : Int))) ∧ RdS w11 (Iv 0 w.heap.size) (RF e_Str) 1 A1 p_s.length c1 p_s ∧ Ex w w11 ∧ loopM (B_g_slices_IndexFunc_string_0 p_s p_f) (p_s.length - k8) k8 () = loopM (B_g_slices_IndexFunc_string_0 p_s p_f) (p_s.length - 0) 0 ()) (p_s.length - 0) ?_ ?_)))))))))
 ·exact ⟨0, rfl, (by omega), Nat.le_refl _, rfl, rfl, rfl, rfl, h1, (Ex.refl w), rfl⟩
 ·rintro m12 L13 w14 ⟨k8, rfl, hk15, hsz17, hl18, hl19, hl20, hl21, hf22, hf23, hI16⟩
  refine CW.sub (Sub.cons hl18 (Sub.cons hl19 (Sub.cons hl20 (Sub.cons hl21 (Sub.nil _))))) ?_
  have hf23z := Ex.size hf23
  have hbg24 := RdS.big hf22
  rcases Nat.lt_or_ge k8 p_s.length with hlt25 | hlt25
  ·refine CW.seq (CW.region (sd rfl (yl_lss rfl rfl rfl (SeqR.done (tn (CW.seq (CW.cond_t rfl (lt_t hlt25) (CW.skip (tn ?_)))))))))
   refine CW.seq (CW.block (CW.seq (CW.region (sd rfl (yl_move rfl rfl (sd rfl (yl_assign rfl rfl (SeqR.done (tn (CW.seq ?_))))))))))
   refine CW.region (sd rfl (yl_move rfl rfl (sd rfl (yl_move rfl rfl (sd rfl (yl_move rfl rfl ?_))))))
   obtain ⟨eb26, eo26, ec26, eA26, eS26, ebl26, el26, eR26, eC26⟩ := RdS.atD hf22 d_Str (i := k8) (by first | omega | assumption)
   obtain rfl := eR26
   have eC26 : Cells w14 eb26 (eo26 + k8 * 1) [.string (bs ((p_s.getD k8 d_Str)))] := eC26
   refine sd rfl (yl_indexAddrN Try.un52 Try.ty9 rfl rfl rfl eA26 (by first | omega | assumption | (simp only [IntKind.wrap_i64] at *; omega)) (sd rfl (yl_load1 Try.ty9 rfl rfl (eC26 0 _ rfl) (sd rfl (yl_callv hen5 rfl rfl (opvs_cons rfl opvs_nil) (Cal.mono (hfn6 w14 (p_s.getD k8 d_Str) hf23 (getD_mem (by omega)) (okL.getD o2 ok_d_Str _)) ?_))))))
   rintro v28 w27 ⟨rfl, hE29⟩
   have hE29z := Ex.size hE29
   refine SeqR.done (tn (bcase (p_f (p_s.getD k8 d_Str)) (fun hb30 => ?_) (fun hb30 => ?_)))
   ·refine CW.cond_t rfl hb30 (CW.seq (CW.region (sd rfl (yl_move rfl rfl (sd rfl (yl_assign rfl rfl (SeqR.done (tn (CW.ret (br ?_))))))))))
    refine tr (tr ?_)
    have hB32 : B_g_slices_IndexFunc_string_0 p_s p_f k8 () = .ret (k8 : Int) := by simp only [B_g_slices_IndexFunc_string_0, hb30, cond_true, cond_false, loopE_done, loopE_ret]
    have hL31 : loopM (B_g_slices_IndexFunc_string_0 p_s p_f) (p_s.length - 0) 0 () = .ret (k8 : Int) := hI16.symm.trans (loopM.ret hlt25 hB32)
    refine br (tr (rr rfl (.cons rfl .nil) ?_))
    have hM33 : (g_slices_IndexFunc_string p_s p_f) = ((k8 : Int)) := by simp only [g_slices_IndexFunc_string, hb30, hL31, cond_true, cond_false, loopE_done, loopE_ret]
    rw [hM33]
    exact ⟨rfl, (Ex.trans hf23 hE29)⟩
   ·refine CW.cond_f rfl hb30 (CW.skip (bn (tn (CW.region (sd rfl (yl_inc rfl rfl rfl (by omega) (sd rfl (yl_move rfl rfl (SeqR.done (tn ?_))))))))))
    have hB35 : B_g_slices_IndexFunc_string_0 p_s p_f k8 () = .cont () := by simp only [B_g_slices_IndexFunc_string_0, hb30, cond_true, cond_false, loopE_done, loopE_ret]
    exact ⟨p_s.length - (k8 + 1), by omega, k8 + 1, rfl, hlt25, (by omega), rfl, rfl, rfl, rfl, (RdS.ex good_Str hf22 hE29), (Ex.trans hf23 hE29), (loopM.cont hlt25 hB35).symm.trans hI16⟩
  ·refine CW.seq (CW.region (sd rfl (yl_lss rfl rfl rfl (SeqR.done (tn (CW.seq (CW.cond_f rfl (lt_f hlt25) (CW.exit (tx ?_)))))))))
   refine tx ?_
   have hL38 : loopM (B_g_slices_IndexFunc_string_0 p_s p_f) (p_s.length - 0) 0 () = .done () := hI16.symm.trans (loopM.stop hlt25)
   refine bx (tn (CW.seq (CW.region (sd rfl (yl_assign rfl rfl (SeqR.done (tn (CW.ret (rr rfl (.cons rfl .nil) ?_)))))))))
   have hM39 : (g_slices_IndexFunc_string p_s p_f) = (-1) := by simp only [g_slices_IndexFunc_string, hL38, cond_true, cond_false, loopE_done, loopE_ret]
   rw [hM39]
   exact ⟨rfl, hf23⟩
set_option maxRecDepth 100000 in
set_option maxHeartbeats 2000000 in
theorem c_g_slices_ContainsFunc_string {A1 : Option Addr} {c1 : Nat} {g3 : Nat} {cp4 : List Value} {w : World} (p_s : List Str) (p_f : Str → Bool) (h1 : RdS w (Iv 0 w.heap.size) (RF e_Str) 1 A1 p_s.length c1 p_s) (hen5 : Go.X.Enters Try.prog g3) (hfn6 : ∀ (w1 : World) (y0 : Str), Ex w w1 → y0 ∈ p_s → okS y0 → Cal Try.prog g3 (([.string (bs (y0))] : List Value) ++ cp4).toArray w1 fun v w2 => v = .bool (p_f y0) ∧ Ex w1 w2) (o2 : (okL okS) p_s) : Cal Try.prog 213 #[.slice A1 p_s.length c1, .func (.func g3) #[] cp4.toArray] w fun v w' => v = .bool ((g_slices_ContainsFunc_string p_s p_f)) ∧ Ex w w' := by
 have hol7 := o2.1
 refine Cal.of (vs := [.slice A1 p_s.length c1, .func (.func g3) #[] cp4.toArray]) Try.func213 rfl Try.ntmps213 rfl (CW.seq (CW.region (sd rfl (yl_assign rfl rfl (SeqR.done (tn (CW.seq (CW.region (sd rfl (yl_move rfl rfl ?_))))))))))
 refine sd rfl (yl_move rfl rfl (sd rfl (yl_call Try.en239 rfl (opvs_cons rfl (opvs_cons rfl opvs_nil)) (Cal.mono (c_g_slices_IndexFunc_string p_s p_f (RdS.up h1 good_Str) hen5 (fun w1 y0 => fun hE => hfn6 w1 y0 (Ex.trans (Ex.refl w) hE)) o2) ?_))))
 rintro v9 w8 ⟨rfl, hE10⟩
 have hE10z := Ex.size hE10
 refine sd rfl (yl_geq rfl rfl rfl (sd rfl (yl_assign rfl rfl (SeqR.done (tn (CW.ret (rr rfl (.cons rfl .nil) ?_)))))))
 have hM11 : (g_slices_ContainsFunc_string p_s p_f) = (decide (0 ≤ (g_slices_IndexFunc_string p_s p_f))) := by simp only [g_slices_ContainsFunc_string, cond_true, cond_false, loopE_done, loopE_ret]
 rw [hM11]
 exact ⟨rfl, (Ex.trans (Ex.refl w) hE10)⟩
set_option maxRecDepth 100000 in
set_option maxHeartbeats 2000000 in
theorem c_i_isLowerOrDigit {w : World} (p_b : Int) : Cal Try.prog 249 #[.int .u8 (p_b)] w fun v w' => v = .bool ((i_isLowerOrDigit p_b)) ∧ Ex w w' := by
 refine Cal.of (vs := [.int .u8 (p_b)]) Try.func249 rfl Try.ntmps249 rfl (CW.seq (CW.region (sd rfl (yl_assign rfl rfl (SeqR.done (tn (CW.seq (CW.region (sd rfl (yl_move rfl rfl ?_))))))))))
 refine sd rfl (yl_geq rfl rfl rfl (sd rfl (yl_move rfl rfl (bcase (decide (97 ≤ p_b)) (fun hb1 => ?_) (fun hb1 => ?_)))))
 ·have hb1p := dec_t hb1
  refine sy rfl rfl hb1 (yl_move rfl rfl (sy rfl rfl hb1 (yl_leq rfl rfl rfl (sd rfl (yl_pick_t rfl rfl hb1 rfl (sd rfl (yl_move rfl rfl (bcase (decide (p_b ≤ 122)) (fun hb2 => ?_) (fun hb2 => ?_)))))))))
  ·have hb2p := dec_t hb2
   refine sz rfl rfl hb2 (sz rfl rfl hb2 (sz rfl rfl hb2 (sq rfl rfl (sq rfl rfl (sz rfl rfl hb2 (sd rfl (yl_pick_t rfl rfl hb2 rfl (sd rfl (yl_assign rfl rfl (SeqR.done ?_))))))))))
   refine tn (CW.ret (rr rfl (.cons rfl .nil) ?_))
   have hM3 : (i_isLowerOrDigit p_b) = (true) := by simp only [i_isLowerOrDigit, hb1, hb2, cond_true, cond_false, loopE_done, loopE_ret]
   rw [hM3]
   exact ⟨rfl, (Ex.refl w)⟩
  ·have hb2p := dec_f hb2
   refine sy rfl rfl hb2 (yl_move rfl rfl (sy rfl rfl hb2 (yl_geq rfl rfl rfl (sy rfl rfl hb2 (yl_move rfl rfl (bcase (decide (48 ≤ p_b)) (fun hb4 => ?_) (fun hb4 => ?_)))))))
   ·have hb4p := dec_t hb4
    refine sy rfl rfl hb4 (yl_move rfl rfl (sy rfl rfl hb4 (yl_leq rfl rfl rfl (sy rfl rfl hb2 (yl_pick_t rfl rfl hb4 rfl (sd rfl (yl_pick_f rfl rfl hb2 rfl (sd rfl (yl_assign rfl rfl (SeqR.done (tn (CW.ret (rr rfl (.cons rfl .nil) ?_)))))))))))))
    have hM5 : (i_isLowerOrDigit p_b) = (decide (p_b ≤ 57)) := by simp only [i_isLowerOrDigit, hb1, hb2, hb4, cond_true, cond_false, loopE_done, loopE_ret]
    rw [hM5]
    exact ⟨rfl, (Ex.refl w)⟩
   ·have hb4p := dec_f hb4
    refine sz rfl rfl hb4 (sz rfl rfl hb4 (sy rfl rfl hb2 (yl_pick_f rfl rfl hb4 rfl (sd rfl (yl_pick_f rfl rfl hb2 rfl (sd rfl (yl_assign rfl rfl (SeqR.done (tn (CW.ret (rr rfl (.cons rfl .nil) ?_)))))))))))
    have hM6 : (i_isLowerOrDigit p_b) = (false) := by simp only [i_isLowerOrDigit, hb1, hb2, hb4, cond_true, cond_false, loopE_done, loopE_ret]
    rw [hM6]
    exact ⟨rfl, (Ex.refl w)⟩
 ·have hb1p := dec_f hb1
  refine sz rfl rfl hb1 (sz rfl rfl hb1 (sd rfl (yl_pick_f rfl rfl hb1 rfl (sd rfl (yl_move rfl rfl (sy rfl rfl rfl (yl_move rfl rfl (sy rfl rfl rfl (yl_geq rfl rfl rfl (sy rfl rfl rfl (yl_move rfl rfl (bcase (decide (48 ≤ p_b)) (fun hb7 => ?_) (fun hb7 => ?_)))))))))))))
  ·have hb7p := dec_t hb7
   refine sy rfl rfl hb7 (yl_move rfl rfl (sy rfl rfl hb7 (yl_leq rfl rfl rfl (sy rfl rfl rfl (yl_pick_t rfl rfl hb7 rfl (sd rfl (yl_pick_f rfl rfl rfl rfl (sd rfl (yl_assign rfl rfl (SeqR.done (tn (CW.ret (rr rfl (.cons rfl .nil) ?_)))))))))))))
   have hM8 : (i_isLowerOrDigit p_b) = (decide (p_b ≤ 57)) := by simp only [i_isLowerOrDigit, hb1, hb7, cond_true, cond_false, loopE_done, loopE_ret]
   rw [hM8]
   exact ⟨rfl, (Ex.refl w)⟩
  ·have hb7p := dec_f hb7
   refine sz rfl rfl hb7 (sz rfl rfl hb7 (sy rfl rfl rfl (yl_pick_f rfl rfl hb7 rfl (sd rfl (yl_pick_f rfl rfl rfl rfl (sd rfl (yl_assign rfl rfl (SeqR.done (tn (CW.ret (rr rfl (.cons rfl .nil) ?_)))))))))))
   have hM9 : (i_isLowerOrDigit p_b) = (false) := by simp only [i_isLowerOrDigit, hb1, hb7, cond_true, cond_false, loopE_done, loopE_ret]
   rw [hM9]
   exact ⟨rfl, (Ex.refl w)⟩
set_option maxRecDepth 100000 in
set_option maxHeartbeats 2000000 in
theorem c_g_internal_stringslite_IndexByte {w : World} (p_s : Str) (p_c : Int) (o1 : okS p_s) : Cal Try.prog 257 #[.string (bs (p_s)), .int .u8 (p_c)] w fun v w' => v = .int .i64 ((g_internal_stringslite_IndexByte p_s p_c)) ∧ Ex w w' := by
 have hol2 : p_s.length ≤ 1073741824 := o1
 refine Cal.of (vs := [.string (bs (p_s)), .int .u8 (p_c)]) Try.func257 rfl Try.ntmps257 rfl (CW.seq (CW.region (sd rfl (yl_assign rfl rfl (SeqR.done (tn (CW.seq (CW.region (sd rfl (yl_move rfl rfl ?_))))))))))
 refine sd rfl (yl_move rfl rfl (sd rfl (yl_idxB (s := p_s) (c := p_c) Try.ex263 rfl (opvs_cons rfl (opvs_cons rfl opvs_nil)) (sd rfl (yl_assign rfl rfl (SeqR.done (tn (CW.ret (rr rfl (.cons rfl .nil) ?_)))))))))
 have hM3 : (g_internal_stringslite_IndexByte p_s p_c) = (idxB p_s p_c) := by simp only [g_internal_stringslite_IndexByte, cond_true, cond_false, loopE_done, loopE_ret]
 rw [hM3]
 exact ⟨rfl, (Ex.refl w)⟩
set_option maxRecDepth 100000 in
set_option maxHeartbeats 2000000 in
theorem c_g_strings_IndexByte {w : World} (p_s : Str) (p_c : Int) (o1 : okS p_s) : Cal Try.prog 250 #[.string (bs (p_s)), .int .u8 (p_c)] w fun v w' => v = .int .i64 ((g_strings_IndexByte p_s p_c)) ∧ Ex w w' := by
 have hol2 : p_s.length ≤ 1073741824 := o1
 refine Cal.of (vs := [.string (bs (p_s)), .int .u8 (p_c)]) Try.func250 rfl Try.ntmps250 rfl (CW.seq (CW.region (sd rfl (yl_assign rfl rfl (SeqR.done (tn (CW.seq (CW.region (sd rfl (yl_move rfl rfl ?_))))))))))
 refine sd rfl (yl_move rfl rfl (sd rfl (yl_call Try.en257 rfl (opvs_cons rfl (opvs_cons rfl opvs_nil)) (Cal.mono (c_g_internal_stringslite_IndexByte p_s p_c o1) ?_))))
 rintro v4 w3 ⟨rfl, hE5⟩
 have hE5z := Ex.size hE5
 refine sd rfl (yl_assign rfl rfl (SeqR.done (tn (CW.ret (rr rfl (.cons rfl .nil) ?_)))))
 have hM6 : (g_strings_IndexByte p_s p_c) = ((g_internal_stringslite_IndexByte p_s p_c)) := by simp only [g_strings_IndexByte, cond_true, cond_false, loopE_done, loopE_ret]
 rw [hM6]
 exact ⟨rfl, (Ex.trans (Ex.refl w) hE5)⟩
set_option maxRecDepth 100000 in
set_option maxHeartbeats 2000000 in
theorem c_i_hasBytes {w : World} (p_s : Str) (p_others : Str) (o1 : okS p_s) (o2 : okS p_others) : Cal Try.prog 235 #[.string (bs (p_s)), .string (bs (p_others))] w fun v w' => v = .bool ((i_hasBytes p_s p_others)) ∧ Ex w w' := by
 have hol3 : p_s.length ≤ 1073741824 := o1
 have hol4 : p_others.length ≤ 1073741824 := o2
 refine Cal.of (vs := [.string (bs (p_s)), .string (bs (p_others))]) Try.func235 rfl Try.ntmps235 rfl (CW.seq (CW.region (sd rfl (yl_assign rfl rfl (SeqR.done (tn (CW.seq (CW.seq (CW.region ?_)))))))))
 refine sd rfl (yl_move rfl rfl (sd rfl (yl_slen Try.un9 (a := p_s) rfl rfl (sd rfl (yl_move rfl rfl (SeqR.done (tn (CW.block (CW.loop (fun m6 L7 w8 => ∃ (k5 : Nat), m6 = p_s.length - k5 ∧ k5 ≤ p_s.length ∧ w.heap.size ≤ w8.heap.size ∧ lkp L7 0 = some (.string (bs (p_s))) ∧ lkp L7 1 = some (.string (bs (p_others))) ∧ lkp L7 7 = some (.int .i64 ((p_s.length : Int))) ∧ lkp L7 8 = some (.int .i64 ((k5 : Int))) ∧ Ex w w8 ∧ loopM (B_i_hasBytes_0 p_s p_others) (p_s.length - k5) k5 () = loopM (B_i_hasBytes_0 p_s p_others) (p_s.length - 0) 0 ()) (p_s.length - 0) ?_ ?_)))))))))
 ·exact ⟨0, rfl, (by omega), Nat.le_refl _, rfl, rfl, rfl, rfl, (Ex.refl w), rfl⟩
 ·rintro m9 L10 w11 ⟨k5, rfl, hk12, hsz14, hl15, hl16, hl17, hl18, hf19, hI13⟩
  refine CW.sub (Sub.cons hl15 (Sub.cons hl16 (Sub.cons hl17 (Sub.cons hl18 (Sub.nil _))))) ?_
  have hf19z := Ex.size hf19
  have hbg20 : p_s.length ≤ 1073741824 := o1
  rcases Nat.lt_or_ge k5 p_s.length with hlt21 | hlt21
  ·refine CW.seq (CW.region (sd rfl (yl_lss rfl rfl rfl (SeqR.done (tn (CW.seq (CW.cond_t rfl (lt_t hlt21) (CW.skip (tn ?_)))))))))
   refine CW.seq (CW.block (CW.seq (CW.region (sd rfl (yl_move rfl rfl (sd rfl (yl_assign rfl rfl (SeqR.done (tn (CW.seq ?_))))))))))
   refine CW.region (sd rfl (yl_move rfl rfl (sd rfl (yl_move rfl rfl (sd rfl (yl_sindexN Try.un9 (a := p_s) rfl rfl rfl (by first | omega | assumption | (simp only [IntKind.wrap_i64] at *; omega)) (sd rfl (yl_call Try.en249 rfl (opvs_cons rfl opvs_nil) (Cal.mono (c_i_isLowerOrDigit ((p_s.getD k5 0).toNat : Int)) ?_)))))))))
   rintro v23 w22 ⟨rfl, hE24⟩
   have hE24z := Ex.size hE24
   refine sd rfl (yl_not rfl rfl (sd rfl (yl_move rfl rfl (bcase (i_isLowerOrDigit ((p_s.getD k5 0).toNat : Int)) (fun hb25 => ?_) (fun hb25 => ?_)))))
   ·refine sz rfl rfl (not_t hb25) (sz rfl rfl (not_t hb25) (sz rfl rfl (not_t hb25) (sz rfl rfl (not_t hb25) (sz rfl rfl (not_t hb25) (sz rfl rfl (not_t hb25) (sd rfl (yl_pick_f rfl rfl (not_t hb25) rfl (SeqR.done (tn ?_)))))))))
    refine CW.cond_f rfl rfl (CW.skip (bn (tn (CW.region (sd rfl (yl_inc rfl rfl rfl (by omega) (sd rfl (yl_move rfl rfl (SeqR.done (tn ?_))))))))))
    have hB26 : B_i_hasBytes_0 p_s p_others k5 () = .cont () := by simp only [B_i_hasBytes_0, hb25, cond_true, cond_false, loopE_done, loopE_ret]
    exact ⟨p_s.length - (k5 + 1), by omega, k5 + 1, rfl, hlt21, (by omega), rfl, rfl, rfl, rfl, (Ex.trans hf19 hE24), (loopM.cont hlt21 hB26).symm.trans hI13⟩
   ·refine sy rfl rfl (not_f hb25) (yl_move rfl rfl (sy rfl rfl (not_f hb25) (yl_move rfl rfl (sy rfl rfl (not_f hb25) (yl_move rfl rfl (sy rfl rfl (not_f hb25) (yl_sindexN Try.un9 (a := p_s) rfl rfl rfl (by first | omega | assumption | (simp only [IntKind.wrap_i64] at *; omega)) (sy rfl rfl (not_f hb25) (yl_call Try.en250 rfl (opvs_cons rfl (opvs_cons rfl opvs_nil)) (Cal.mono (c_g_strings_IndexByte p_others ((p_s.getD k5 0).toNat : Int) o2) ?_))))))))))
    rintro v29 w28 ⟨rfl, hE30⟩
    have hE30z := Ex.size hE30
    refine sy rfl rfl (not_f hb25) (yl_lss rfl rfl rfl (sd rfl (yl_pick_t rfl rfl (not_f hb25) rfl (SeqR.done (tn (bcase (decide ((g_strings_IndexByte p_others ((p_s.getD k5 0).toNat : Int)) < 0)) (fun hb31 => ?_) (fun hb31 => ?_)))))))
    ·have hb31p := dec_t hb31
     refine CW.cond_t rfl hb31 (CW.seq (CW.region (sd rfl (yl_assign rfl rfl (SeqR.done (tn (CW.ret (br (tr ?_)))))))))
     refine tr ?_
     have hB33 : B_i_hasBytes_0 p_s p_others k5 () = .ret false := by simp only [B_i_hasBytes_0, hb25, hb31, cond_true, cond_false, loopE_done, loopE_ret]
     have hL32 : loopM (B_i_hasBytes_0 p_s p_others) (p_s.length - 0) 0 () = .ret false := hI13.symm.trans (loopM.ret hlt21 hB33)
     refine br (tr (rr rfl (.cons rfl .nil) ?_))
     have hM34 : (i_hasBytes p_s p_others) = (false) := by simp only [i_hasBytes, hb25, hb31, hL32, cond_true, cond_false, loopE_done, loopE_ret]
     rw [hM34]
     exact ⟨rfl, (Ex.trans (Ex.trans hf19 hE24) hE30)⟩
    ·have hb31p := dec_f hb31
     refine CW.cond_f rfl hb31 (CW.skip (bn (tn (CW.region (sd rfl (yl_inc rfl rfl rfl (by omega) (sd rfl (yl_move rfl rfl (SeqR.done (tn ?_))))))))))
     have hB37 : B_i_hasBytes_0 p_s p_others k5 () = .cont () := by simp only [B_i_hasBytes_0, hb25, hb31, cond_true, cond_false, loopE_done, loopE_ret]
     exact ⟨p_s.length - (k5 + 1), by omega, k5 + 1, rfl, hlt21, (by omega), rfl, rfl, rfl, rfl, (Ex.trans (Ex.trans hf19 hE24) hE30), (loopM.cont hlt21 hB37).symm.trans hI13⟩
  ·refine CW.seq (CW.region (sd rfl (yl_lss rfl rfl rfl (SeqR.done (tn (CW.seq (CW.cond_f rfl (lt_f hlt21) (CW.exit (tx ?_)))))))))
   refine tx ?_
   have hL40 : loopM (B_i_hasBytes_0 p_s p_others) (p_s.length - 0) 0 () = .done () := hI13.symm.trans (loopM.stop hlt21)
   refine bx (tn (CW.seq (CW.region (sd rfl (yl_assign rfl rfl (SeqR.done (tn (CW.ret (rr rfl (.cons rfl .nil) ?_)))))))))
   have hM41 : (i_hasBytes p_s p_others) = (true) := by simp only [i_hasBytes, hL40, cond_true, cond_false, loopE_done, loopE_ret]
   rw [hM41]
   exact ⟨rfl, hf19⟩
set_option maxRecDepth 100000 in
set_option maxHeartbeats 2000000 in
theorem c_i_isField {w : World} (p_s : Str) (o1 : okS p_s) : Cal Try.prog 215 #[.string (bs (p_s))] w fun v w' => v = .bool ((i_isField p_s)) ∧ Ex w w' := by
 have hol2 : p_s.length ≤ 1073741824 := o1
 refine Cal.of (vs := [.string (bs (p_s))]) Try.func215 rfl Try.ntmps215 rfl (CW.seq (CW.region (sd rfl (yl_assign rfl rfl (SeqR.done (tn (CW.seq (CW.region (sd rfl (yl_move rfl rfl ?_))))))))))
 refine sd rfl (yl_slen Try.un9 (a := p_s) rfl rfl (sd rfl (yl_call Try.en142 rfl (opvs_cons rfl (opvs_cons rfl (opvs_cons rfl opvs_nil))) (Cal.mono (c_i_within (p_s.length : Int) 1 3) ?_))))
 rintro v4 w3 ⟨rfl, hE5⟩
 have hE5z := Ex.size hE5
 refine sd rfl (yl_move rfl rfl (bcase (i_within (p_s.length : Int) 1 3) (fun hb6 => ?_) (fun hb6 => ?_)))
 ·have hb6p := f_within hb6
  refine sy rfl rfl hb6 (yl_move rfl rfl (sy rfl rfl hb6 (yl_call Try.en235 rfl (opvs_cons rfl (opvs_cons rfl opvs_nil)) (Cal.mono (c_i_hasBytes p_s ([] : Str) o1 (okS.lit rfl)) ?_))))
  rintro v8 w7 ⟨rfl, hE9⟩
  have hE9z := Ex.size hE9
  refine sd rfl (yl_pick_t rfl rfl hb6 rfl (sd rfl (yl_assign rfl rfl (SeqR.done (tn (CW.ret (rr rfl (.cons rfl .nil) ?_)))))))
  have hM10 : (i_isField p_s) = ((i_hasBytes p_s ([] : Str))) := by simp only [i_isField, hb6, cond_true, cond_false, loopE_done, loopE_ret]
  rw [hM10]
  exact ⟨rfl, (Ex.trans (Ex.trans (Ex.refl w) hE5) hE9)⟩
 ·refine sz rfl rfl hb6 (sz rfl rfl hb6 (sd rfl (yl_pick_f rfl rfl hb6 rfl (sd rfl (yl_assign rfl rfl (SeqR.done (tn (CW.ret (rr rfl (.cons rfl .nil) ?_)))))))))
  have hM13 : (i_isField p_s) = (false) := by simp only [i_isField, hb6, cond_true, cond_false, loopE_done, loopE_ret]
  rw [hM13]
  exact ⟨rfl, (Ex.trans (Ex.refl w) hE5)⟩
set_option maxRecDepth 100000 in
set_option maxHeartbeats 2000000 in
theorem c_i_Table_isRow_c1 {w : World} (p_s : Str) (o1 : okS p_s) : Cal Try.prog 214 #[.string (bs (p_s))] w fun v w' => v = .bool ((i_Table_isRow_c1 p_s)) ∧ Ex w w' := by
 have hol2 : p_s.length ≤ 1073741824 := o1
 refine Cal.of (vs := [.string (bs (p_s))]) Try.func214 rfl Try.ntmps214 rfl (CW.seq (CW.region (sd rfl (yl_assign rfl rfl (SeqR.done (tn (CW.seq (CW.region (sd rfl (yl_move rfl rfl ?_))))))))))
 refine sd rfl (yl_call Try.en215 rfl (opvs_cons rfl opvs_nil) (Cal.mono (c_i_isField p_s o1) ?_))
 rintro v4 w3 ⟨rfl, hE5⟩
 have hE5z := Ex.size hE5
 refine sd rfl (yl_not rfl rfl (sd rfl (yl_assign rfl rfl (SeqR.done (tn (CW.ret (rr rfl (.cons rfl .nil) ?_)))))))
 have hM6 : (i_Table_isRow_c1 p_s) = (!(i_isField p_s)) := by simp only [i_Table_isRow_c1, cond_true, cond_false, loopE_done, loopE_ret]
 rw [hM6]
 exact ⟨rfl, (Ex.trans (Ex.refl w) hE5)⟩
set_option maxRecDepth 100000 in
set_option maxHeartbeats 2000000 in
theorem c_i_Table_isRow {A1 : Option Addr} {c1 : Nat} {A2 : Option Addr} {c2 : Nat} {A4 : Option Addr} {c4 : Nat} {w : World} (p_t : DTable) (p_r : DRow) (h1 : RdS w (Iv 0 w.heap.size) (RF e_Str) 1 A1 p_t.Cols.length c1 p_t.Cols) (h2 : RdS w (Iv 0 w.heap.size) (RF e_Idx) 3 A2 p_t.Idxs.length c2 p_t.Idxs) (h4 : RdS w (Iv 0 w.heap.size) (RF e_Str) 1 A4 p_r.Vals.length c4 p_r.Vals) (o3 : ok_Table p_t) (o5 : ok_Row p_r) : Cal Try.prog 167 #[.agg #[.string (bs (p_t.Name)), .slice A1 p_t.Cols.length c1, .slice A2 p_t.Idxs.length c2], .agg #[.slice A4 p_r.Vals.length c4]] w fun v w' => v = .bool ((i_Table_isRow p_t p_r)) ∧ Ex w w' := by
 have hol6 : p_t.Name.length ≤ 1073741824 := o3.1
 have hol7 := o3.2.1.1
 have hol8 := o3.2.2.1
 have hol9 := o5.1
 refine Cal.of (vs := [.agg #[.string (bs (p_t.Name)), .slice A1 p_t.Cols.length c1, .slice A2 p_t.Idxs.length c2], .agg #[.slice A4 p_r.Vals.length c4]]) Try.func167 rfl Try.ntmps167 rfl (CW.seq (CW.region (sd rfl (yl_box (cs := [.string (bs (p_t.Name)), .slice A1 p_t.Cols.length c1, .slice A2 p_t.Idxs.length c2]) rfl rfl rfl ?_))))
 intro b10 w11 hs12 hz13 hB14 hE15
 refine sd rfl (yl_box (cs := [.slice A4 p_r.Vals.length c4]) rfl rfl rfl ?_)
 intro b16 w17 hs18 hz19 hB20 hE21
 refine sd rfl (yl_assign rfl rfl (SeqR.done (tn (CW.seq (CW.region (sd rfl (yl_fieldAddr Try.fd67_0 rfl rfl (sd rfl (yl_load1 Try.ty52 rfl rfl ((hB20.cell 0).trans rfl) (sd rfl (yl_len Try.un52 rfl rfl (sd rfl (yl_fieldAddr Try.fd65_1 rfl rfl ?_)))))))))))))
 refine sd rfl (yl_load1 Try.ty52 rfl rfl (((Box.ex hB14 hE21).cell 1).trans rfl) (sd rfl (yl_len Try.un52 rfl rfl (sd rfl (yl_eql rfl rfl rfl (sd rfl (yl_move rfl rfl (bcase (decide ((p_r.Vals.length : Int) = (p_t.Cols.length : Int))) (fun hb23 => ?_) (fun hb23 => ?_)))))))))
 ·have hb23p := dec_t hb23
  refine sy rfl rfl hb23 (yl_fieldAddr Try.fd67_0 rfl rfl (sy rfl rfl hb23 (yl_load1 Try.ty52 rfl rfl ((hB20.cell 0).trans rfl) (sy rfl rfl hb23 (yl_call Try.en213 rfl (opvs_cons rfl (opvs_cons rfl opvs_nil)) (Cal.mono (c_g_slices_ContainsFunc_string p_r.Vals (fun y0 => i_Table_isRow_c1 y0) (RdS.up (RdS.ex good_Str (RdS.ex good_Str h4 hE15) hE21) good_Str) Try.en214 (fun _ y0 => fun hE hm0 ov0 => c_i_Table_isRow_c1 y0 ov0) o5) ?_))))))
  rintro v27 w26 ⟨rfl, hE28⟩
  have hE28z := Ex.size hE28
  refine sy rfl rfl hb23 (yl_not rfl rfl (sd rfl (yl_pick_t rfl rfl hb23 rfl (sd rfl (yl_assign rfl rfl (SeqR.done (tn (CW.ret (rr rfl (.cons rfl .nil) ?_)))))))))
  have hM29 : (i_Table_isRow p_t p_r) = (!(g_slices_ContainsFunc_string p_r.Vals (fun y0 => i_Table_isRow_c1 y0))) := by simp only [i_Table_isRow, hb23, cond_true, cond_false, loopE_done, loopE_ret]
  rw [hM29]
  exact ⟨rfl, (Ex.trans (Ex.trans (Ex.trans (Ex.refl w) hE15) hE21) hE28)⟩
 ·have hb23p := dec_f hb23
  refine sz rfl rfl hb23 (sz rfl rfl hb23 (sz rfl rfl hb23 (sz rfl rfl hb23 (sd rfl (yl_pick_f rfl rfl hb23 rfl (sd rfl (yl_assign rfl rfl (SeqR.done (tn (CW.ret ?_))))))))))
  refine rr rfl (.cons rfl .nil) ?_
  have hM33 : (i_Table_isRow p_t p_r) = (false) := by simp only [i_Table_isRow, hb23, cond_true, cond_false, loopE_done, loopE_ret]
  rw [hM33]
  exact ⟨rfl, (Ex.trans (Ex.trans (Ex.refl w) hE15) hE21)⟩
set_option maxRecDepth 100000 in
set_option maxHeartbeats 2000000 in
theorem c_i_Table_isRowAct {A1 : Option Addr} {c1 : Nat} {A2 : Option Addr} {c2 : Nat} {A4 : Option Addr} {c4 : Nat} {A5 : Option Addr} {c5 : Nat} {w : World} (p_t : DTable) (p_a : DRowAct) (h1 : RdS w (Iv 0 w.heap.size) (RF e_Str) 1 A1 p_t.Cols.length c1 p_t.Cols) (h2 : RdS w (Iv 0 w.heap.size) (RF e_Idx) 3 A2 p_t.Idxs.length c2 p_t.Idxs) (h4 : RdS w (Iv 0 w.heap.size) (RF e_Str) 1 A4 p_a.Old.Vals.length c4 p_a.Old.Vals) (h5 : RdS w (Iv 0 w.heap.size) (RF e_Str) 1 A5 p_a.New.Vals.length c5 p_a.New.Vals) (o3 : ok_Table p_t) (o6 : ok_RowAct p_a) (pre0 : 0 < p_t.Cols.length) : Cal Try.prog 178 #[.agg #[.string (bs (p_t.Name)), .slice A1 p_t.Cols.length c1, .slice A2 p_t.Idxs.length c2], .agg #[.int .i64 (p_a.Kind), .slice A4 p_a.Old.Vals.length c4, .slice A5 p_a.New.Vals.length c5]] w fun v w' => v = .bool ((i_Table_isRowAct p_t p_a)) ∧ Ex w w' := by
 have hol7 : p_t.Name.length ≤ 1073741824 := o3.1
 have hol8 := o3.2.1.1
 have hol9 := o3.2.2.1
 have hol10 := o6.1.1
 have hol11 := o6.2.1
 refine Cal.of (vs := [.agg #[.string (bs (p_t.Name)), .slice A1 p_t.Cols.length c1, .slice A2 p_t.Idxs.length c2], .agg #[.int .i64 (p_a.Kind), .slice A4 p_a.Old.Vals.length c4, .slice A5 p_a.New.Vals.length c5]]) Try.func178 rfl Try.ntmps178 rfl (CW.seq (CW.region (sd rfl (yl_box (cs := [.string (bs (p_t.Name)), .slice A1 p_t.Cols.length c1, .slice A2 p_t.Idxs.length c2]) rfl rfl rfl ?_))))
 intro b12 w13 hs14 hz15 hB16 hE17
 refine sd rfl (yl_box (cs := [.int .i64 (p_a.Kind), .slice A4 p_a.Old.Vals.length c4, .slice A5 p_a.New.Vals.length c5]) rfl rfl rfl ?_)
 intro b18 w19 hs20 hz21 hB22 hE23
 refine sd rfl (yl_assign rfl rfl (SeqR.done (tn (CW.seq (CW.seq (CW.region (sd rfl (yl_fieldAddr Try.fd93_0 rfl rfl (sd rfl (yl_load1 Try.ty3 rfl rfl ((hB22.cell 0).trans rfl) (SeqR.done ?_)))))))))))
 refine tn (CW.block (CW.seq (CW.region (sd rfl (yl_eql rfl rfl rfl (sd rfl (yl_assign rfl rfl (SeqR.done (tn (bcase (decide (p_a.Kind = 1)) (fun hb24 => ?_) (fun hb24 => ?_)))))))))))
 ·have hb24p := dec_t hb24
  refine CW.cond_t rfl hb24 (CW.seq (CW.region (sd rfl (yl_fieldAddr Try.fd93_1 rfl rfl (sd rfl (yl_fieldAddr Try.fd67_0 rfl rfl (sd rfl (yl_load1 Try.ty52 rfl rfl ((hB22.cell 1).trans rfl) (sd rfl (yl_len Try.un52 rfl rfl (sd rfl (yl_eql rfl rfl rfl (sd rfl (yl_move rfl rfl ?_))))))))))))))
  refine bcase (decide ((p_a.Old.Vals.length : Int) = 0)) (fun hb25 => ?_) (fun hb25 => ?_)
  ·have hb25p := dec_t hb25
   refine sy rfl rfl hb25 (yl_loadN (cs := [.string (bs (p_t.Name)), .slice A1 p_t.Cols.length c1, .slice A2 p_t.Idxs.length c2]) Try.ty65 rfl rfl ((Box.ex hB16 hE23).cells (n := 3) rfl) rfl (sy rfl rfl hb25 (yl_fieldAddr Try.fd93_2 rfl rfl (sy rfl rfl hb25 (yl_loadN (cs := [.slice A5 p_a.New.Vals.length c5]) Try.ty67 rfl rfl (hB22.cells (n := 1) rfl) rfl (sy rfl rfl hb25 (yl_call Try.en167 rfl (opvs_cons rfl (opvs_cons rfl opvs_nil)) (Cal.mono (c_i_Table_isRow p_t p_a.New (RdS.up (RdS.ex good_Str (RdS.ex good_Str h1 hE17) hE23) good_Str) (RdS.up (RdS.ex good_Idx (RdS.ex good_Idx h2 hE17) hE23) good_Idx) (RdS.up (RdS.ex good_Str (RdS.ex good_Str h5 hE17) hE23) good_Str) o3 o6.2) ?_))))))))
   rintro v34 w33 ⟨rfl, hE35⟩
   have hE35z := Ex.size hE35
   refine sd rfl (yl_pick_t rfl rfl hb25 rfl (sd rfl (yl_assign rfl rfl (SeqR.done (tn (CW.ret (br (tr (rr rfl (.cons rfl .nil) ?_)))))))))
   have hM36 : (i_Table_isRowAct p_t p_a) = ((i_Table_isRow p_t p_a.New)) := by simp only [i_Table_isRowAct, hb24, hb25, cond_true, cond_false, loopE_done, loopE_ret]
   rw [hM36]
   exact ⟨rfl, (Ex.trans (Ex.trans (Ex.trans (Ex.refl w) hE17) hE23) hE35)⟩
  ·have hb25p := dec_f hb25
   refine sz rfl rfl hb25 (sz rfl rfl hb25 (sz rfl rfl hb25 (sz rfl rfl hb25 (sd rfl (yl_pick_f rfl rfl hb25 rfl (sd rfl (yl_assign rfl rfl (SeqR.done (tn (CW.ret ?_))))))))))
   refine br (tr (rr rfl (.cons rfl .nil) ?_))
   have hM40 : (i_Table_isRowAct p_t p_a) = (false) := by simp only [i_Table_isRowAct, hb24, hb25, cond_true, cond_false, loopE_done, loopE_ret]
   rw [hM40]
   exact ⟨rfl, (Ex.trans (Ex.trans (Ex.refl w) hE17) hE23)⟩
 ·have hb24p := dec_f hb24
  refine CW.cond_f rfl hb24 (CW.seq (CW.region (sd rfl (yl_eql rfl rfl rfl (sd rfl (yl_assign rfl rfl (SeqR.done (tn (bcase (decide (p_a.Kind = 2)) (fun hb43 => ?_) (fun hb43 => ?_))))))))))
  ·have hb43p := dec_t hb43
   refine CW.cond_t rfl hb43 (CW.seq (CW.region (sd rfl (yl_loadN (cs := [.string (bs (p_t.Name)), .slice A1 p_t.Cols.length c1, .slice A2 p_t.Idxs.length c2]) Try.ty65 rfl rfl ((Box.ex hB16 hE23).cells (n := 3) rfl) rfl (sd rfl (yl_fieldAddr Try.fd93_1 rfl rfl (sd rfl (yl_loadN (cs := [.slice A4 p_a.Old.Vals.length c4]) Try.ty67 rfl rfl (hB22.cells (n := 1) rfl) rfl (sd rfl (yl_call Try.en167 rfl (opvs_cons rfl (opvs_cons rfl opvs_nil)) (Cal.mono (c_i_Table_isRow p_t p_a.Old (RdS.up (RdS.ex good_Str (RdS.ex good_Str h1 hE17) hE23) good_Str) (RdS.up (RdS.ex good_Idx (RdS.ex good_Idx h2 hE17) hE23) good_Idx) (RdS.up (RdS.ex good_Str (RdS.ex good_Str h4 hE17) hE23) good_Str) o3 o6.1) ?_)))))))))))
   rintro v52 w51 ⟨rfl, hE53⟩
   have hE53z := Ex.size hE53
   refine sd rfl (yl_move rfl rfl (bcase (i_Table_isRow p_t p_a.Old) (fun hb54 => ?_) (fun hb54 => ?_)))
   ·obtain ⟨hb54p0, hb54p1⟩ := f_i_isRow hb54
    refine sy rfl rfl hb54 (yl_fieldAddr Try.fd93_2 rfl rfl (sy rfl rfl hb54 (yl_fieldAddr Try.fd67_0 rfl rfl (sy rfl rfl hb54 (yl_load1 Try.ty52 rfl rfl (((Box.ex hB22 hE53).cell 2).trans rfl) (sy rfl rfl hb54 (yl_len Try.un52 rfl rfl (sy rfl rfl hb54 (yl_eql rfl rfl rfl (sd rfl (yl_pick_t rfl rfl hb54 rfl (sd rfl (yl_assign rfl rfl (SeqR.done (tn ?_)))))))))))))))
    refine CW.ret (br (tr (rr rfl (.cons rfl .nil) ?_)))
    have hM56 : (i_Table_isRowAct p_t p_a) = (decide ((p_a.New.Vals.length : Int) = 0)) := by simp only [i_Table_isRowAct, hb24, hb43, hb54, cond_true, cond_false, loopE_done, loopE_ret]
    rw [hM56]
    exact ⟨rfl, (Ex.trans (Ex.trans (Ex.trans (Ex.refl w) hE17) hE23) hE53)⟩
   ·refine sz rfl rfl hb54 (sz rfl rfl hb54 (sz rfl rfl hb54 (sz rfl rfl hb54 (sz rfl rfl hb54 (sd rfl (yl_pick_f rfl rfl hb54 rfl (sd rfl (yl_assign rfl rfl (SeqR.done (tn ?_))))))))))
    refine CW.ret (br (tr (rr rfl (.cons rfl .nil) ?_)))
    have hM60 : (i_Table_isRowAct p_t p_a) = (false) := by simp only [i_Table_isRowAct, hb24, hb43, hb54, cond_true, cond_false, loopE_done, loopE_ret]
    rw [hM60]
    exact ⟨rfl, (Ex.trans (Ex.trans (Ex.trans (Ex.refl w) hE17) hE23) hE53)⟩
  ·have hb43p := dec_f hb43
   refine CW.cond_f rfl hb43 (CW.seq (CW.region (sd rfl (yl_eql rfl rfl rfl (sd rfl (yl_assign rfl rfl (SeqR.done (tn (bcase (decide (p_a.Kind = 3)) (fun hb64 => ?_) (fun hb64 => ?_))))))))))
   ·have hb64p := dec_t hb64
    refine CW.cond_t rfl hb64 (CW.seq (bcase (i_Table_isRow p_t p_a.Old) (fun hb73 => ?_) (fun hb73 => ?_)))
    ·obtain ⟨hb73p0, hb73p1⟩ := f_i_isRow hb73
     refine bcase (i_Table_isRow p_t p_a.New) (fun hb85 => ?_) (fun hb85 => ?_)
     ·obtain ⟨hb85p0, hb85p1⟩ := f_i_isRow hb85
      have q86 := Box.ex hB16 hE23
      have q88 := RdS.ex good_Str (RdS.ex good_Str h1 hE17) hE23
      have q90 := RdS.ex good_Idx (RdS.ex good_Idx h2 hE17) hE23
      have q92 := RdS.ex good_Str (RdS.ex good_Str h4 hE17) hE23
      have q95 := RdS.ex good_Str (RdS.ex good_Str h5 hE17) hE23
      obtain ⟨eb97, eo97, ec97, eA97, eS97, ebl97, el97, eR97, eC97⟩ := RdS.atD q92 d_Str (i := 0) (by first | omega | assumption)
      obtain rfl := eR97
      have eC97 : Cells w19 eb97 (eo97 + 0 * 1) [.string (bs ((p_a.Old.Vals.getD 0 d_Str)))] := eC97
      obtain ⟨eb98, eo98, ec98, eA98, eS98, ebl98, el98, eR98, eC98⟩ := RdS.atD q95 d_Str (i := 0) (by first | omega | assumption)
      obtain rfl := eR98
      have eC98 : Cells w19 eb98 (eo98 + 0 * 1) [.string (bs ((p_a.New.Vals.getD 0 d_Str)))] := eC98
      refine CW.drawsI 24 (vgetI [DetI (.agg #[.string (bs (p_t.Name)), .slice A1 p_t.Cols.length c1, .slice A2 p_t.Idxs.length c2]), DetI (.pointer (some ⟨b18, 0 + 1, none⟩)), DetI (.agg #[.slice A4 p_a.Old.Vals.length c4]), DetI (.bool ((i_Table_isRow p_t p_a.Old))), DetI (.bool ((i_Table_isRow p_t p_a.Old))), DetI (.agg #[.string (bs (p_t.Name)), .slice A1 p_t.Cols.length c1, .slice A2 p_t.Idxs.length c2]), DetI (.pointer (some ⟨b18, 0 + 2, none⟩)), DetI (.agg #[.slice A5 p_a.New.Vals.length c5]), DetI (.bool ((i_Table_isRow p_t p_a.New))), DetI (.bool ((i_Table_isRow p_t p_a.New))), DetI (.bool ((i_Table_isRow p_t p_a.New))), DetI (.pointer (some ⟨b18, 0 + 1, none⟩)), DetI (.pointer (some ⟨b18, 0 + 1 + 0, none⟩)), DetI (.slice A4 p_a.Old.Vals.length c4), DetI (.pointer (some ⟨eb97, eo97 + 0 * 1, none⟩)), DetI (.string (bs ((p_a.Old.Vals.getD 0 d_Str)))), DetI (.pointer (some ⟨b18, 0 + 2, none⟩)), DetI (.pointer (some ⟨b18, 0 + 2 + 0, none⟩)), DetI (.slice A5 p_a.New.Vals.length c5), DetI (.pointer (some ⟨eb98, eo98 + 0 * 1, none⟩)), DetI (.string (bs ((p_a.New.Vals.getD 0 d_Str)))), DetI (.bool ((p_a.Old.Vals.getD 0 d_Str) == (p_a.New.Vals.getD 0 d_Str))), DetI (.bool ((p_a.Old.Vals.getD 0 d_Str) == (p_a.New.Vals.getD 0 d_Str))), DetI (.bool ((p_a.Old.Vals.getD 0 d_Str) == (p_a.New.Vals.getD 0 d_Str)))]) Try.follows rfl rfl rfl rfl rfl rfl (vgetI_stable ⟨StableI.det _, StableI.det _, StableI.det _, StableI.det _, StableI.det _, StableI.det _, StableI.det _, StableI.det _, StableI.det _, StableI.det _, StableI.det _, StableI.det _, StableI.det _, StableI.det _, StableI.det _, StableI.det _, StableI.det _, StableI.det _, StableI.det _, StableI.det _, StableI.det _, StableI.det _, StableI.det _, StableI.det _, trivial⟩) ⟨?_, ?_, ?_, ?_, ?_, ?_, ?_, ?_, ?_, ?_, ?_, ?_, ?_, ?_, ?_, ?_, ?_, ?_, ?_, ?_, ?_, ?_, ?_, ?_, trivial⟩ ?_
      ·exact fun _ _ h => os rfl ((yl_loadN (cs := [.string (bs (p_t.Name)), .slice A1 p_t.Cols.length c1, .slice A2 p_t.Idxs.length c2]) Try.ty65 rfl (h.old 2 _ rfl rfl) ((Box.ex q86 h.ex).cells (n := 3) rfl) rfl kI))
      ·exact fun _ _ h => os rfl ((yl_fieldAddr Try.fd93_1 rfl (h.old 3 _ rfl rfl) kI))
      ·exact fun _ _ h => os rfl ((yl_loadN (cs := [.slice A4 p_a.Old.Vals.length c4]) Try.ty67 rfl (h.dt 1 36 rfl rfl rfl) ((Box.ex hB22 h.ex).cells (n := 1) rfl) rfl kI))
      ·intro L116 w117 hi118
       have hE119 := hi118.ex
       refine OpR.op' rfl (yl_call Try.en167 rfl (opvs_cons (hi118.dt 0 35 rfl rfl rfl) (opvs_cons (hi118.dt 2 37 rfl rfl rfl) opvs_nil)) (Cal.mono (c_i_Table_isRow p_t p_a.Old (RdS.up (RdS.ex good_Str q88 hE119) good_Str) (RdS.up (RdS.ex good_Idx q90 hE119) good_Idx) (RdS.up (RdS.ex good_Str q92 hE119) good_Str) o3 o6.1) ?_))
       rintro v126 w125 ⟨rfl, hE127⟩
       exact ⟨rfl, hE127⟩
      ·exact fun _ _ h => os rfl ((yl_move rfl (h.dt 3 38 rfl rfl rfl) kI))
      ·exact fun _ _ h => OpR.want rfl rfl (h.dt 4 39 rfl rfl rfl) hb73 (Yl.sameI (yl_loadN (cs := [.string (bs (p_t.Name)), .slice A1 p_t.Cols.length c1, .slice A2 p_t.Idxs.length c2]) Try.ty65 rfl (h.old 2 _ rfl rfl) ((Box.ex q86 h.ex).cells (n := 3) rfl) rfl kI))
      ·exact fun _ _ h => OpR.want rfl rfl (h.dt 4 39 rfl rfl rfl) hb73 (Yl.sameI (yl_fieldAddr Try.fd93_2 rfl (h.old 3 _ rfl rfl) kI))
      ·exact fun _ _ h => OpR.want rfl rfl (h.dt 4 39 rfl rfl rfl) hb73 (Yl.sameI (yl_loadN (cs := [.slice A5 p_a.New.Vals.length c5]) Try.ty67 rfl (h.dt 6 41 rfl rfl rfl) ((Box.ex hB22 h.ex).cells (n := 1) rfl) rfl kI))
      ·intro L153 w154 hi155
       have hE156 := hi155.ex
       refine OpR.want rfl rfl (hi155.dt 4 39 rfl rfl rfl) hb73 (yl_call Try.en167 rfl (opvs_cons (hi155.dt 5 40 rfl rfl rfl) (opvs_cons (hi155.dt 7 42 rfl rfl rfl) opvs_nil)) (Cal.mono (c_i_Table_isRow p_t p_a.New (RdS.up (RdS.ex good_Str q88 hE156) good_Str) (RdS.up (RdS.ex good_Idx q90 hE156) good_Idx) (RdS.up (RdS.ex good_Str q95 hE156) good_Str) o3 o6.2) ?_))
       rintro v164 w163 ⟨rfl, hE165⟩
       exact ⟨rfl, hE165⟩
      ·exact fun _ _ h => os rfl ((yl_pick_t rfl (h.dt 4 39 rfl rfl rfl) hb73 (h.dt 8 43 rfl rfl rfl) kI))
      ·exact fun _ _ h => os rfl ((yl_move rfl (h.dt 9 44 rfl rfl rfl) kI))
      ·exact fun _ _ h => OpR.want rfl rfl (h.dt 10 45 rfl rfl rfl) hb85 (Yl.sameI (yl_fieldAddr Try.fd93_1 rfl (h.old 3 _ rfl rfl) kI))
      ·exact fun _ _ h => OpR.want rfl rfl (h.dt 10 45 rfl rfl rfl) hb85 (Yl.sameI (yl_fieldAddr Try.fd67_0 rfl (h.dt 11 46 rfl rfl rfl) kI))
      ·exact fun _ _ h => OpR.want rfl rfl (h.dt 10 45 rfl rfl rfl) hb85 (Yl.sameI (yl_load1 Try.ty52 rfl (h.dt 12 47 rfl rfl rfl) (((Box.ex hB22 h.ex).cell 1).trans rfl) kI))
      ·intro L196 w197 hi198
       have hE199 := hi198.ex
       have hE199z := Ex.size hE199
       exact OpR.want rfl rfl (hi198.dt 10 45 rfl rfl rfl) hb85 (Yl.sameI (yl_indexAddrN Try.un52 Try.ty9 rfl (hi198.dt 13 48 rfl rfl rfl) rfl eA97 (by first | omega | assumption | (simp only [IntKind.wrap_i64] at *; omega)) kI))
      ·exact fun _ _ h => OpR.want rfl rfl (h.dt 10 45 rfl rfl rfl) hb85 (Yl.sameI (yl_load1 Try.ty9 rfl (h.dt 14 49 rfl rfl rfl) ((Cells.ex eC97 h.ex) 0 _ rfl) kI))
      ·exact fun _ _ h => OpR.want rfl rfl (h.dt 10 45 rfl rfl rfl) hb85 (Yl.sameI (yl_fieldAddr Try.fd93_2 rfl (h.old 3 _ rfl rfl) kI))
      ·exact fun _ _ h => OpR.want rfl rfl (h.dt 10 45 rfl rfl rfl) hb85 (Yl.sameI (yl_fieldAddr Try.fd67_0 rfl (h.dt 16 51 rfl rfl rfl) kI))
      ·exact fun _ _ h => OpR.want rfl rfl (h.dt 10 45 rfl rfl rfl) hb85 (Yl.sameI (yl_load1 Try.ty52 rfl (h.dt 17 52 rfl rfl rfl) (((Box.ex hB22 h.ex).cell 2).trans rfl) kI))
      ·intro L228 w229 hi230
       have hE231 := hi230.ex
       have hE231z := Ex.size hE231
       exact OpR.want rfl rfl (hi230.dt 10 45 rfl rfl rfl) hb85 (Yl.sameI (yl_indexAddrN Try.un52 Try.ty9 rfl (hi230.dt 18 53 rfl rfl rfl) rfl eA98 (by first | omega | assumption | (simp only [IntKind.wrap_i64] at *; omega)) kI))
      ·exact fun _ _ h => OpR.want rfl rfl (h.dt 10 45 rfl rfl rfl) hb85 (Yl.sameI (yl_load1 Try.ty9 rfl (h.dt 19 54 rfl rfl rfl) ((Cells.ex eC98 h.ex) 0 _ rfl) kI))
      ·exact fun _ _ h => OpR.want rfl rfl (h.dt 10 45 rfl rfl rfl) hb85 (Yl.sameI (yl_seql (a := (p_a.Old.Vals.getD 0 d_Str)) (b := (p_a.New.Vals.getD 0 d_Str)) rfl (h.dt 15 50 rfl rfl rfl) (h.dt 20 55 rfl rfl rfl) kI))
      ·exact fun _ _ h => os rfl ((yl_pick_t rfl (h.dt 10 45 rfl rfl rfl) hb85 (h.dt 21 56 rfl rfl rfl) kI))
      ·exact fun _ _ h => os rfl ((yl_assign rfl (h.dt 22 57 rfl rfl rfl) kI))
      ·intro fl262 fh263 L259 w260 hp261
       have hE264 := hp261.ex
       have hE264z := Ex.size hE264
       refine SeqR.done (tn (CW.sub (Sub.cons (d := 4) (hp261.nt 23 4 rfl rfl rfl) (Sub.nil _)) (CW.ret (br (tr (rr rfl (.cons rfl .nil) ?_))))))
       have hM266 : (i_Table_isRowAct p_t p_a) = ((p_a.Old.Vals.getD 0 d_Str) == (p_a.New.Vals.getD 0 d_Str)) := by simp only [i_Table_isRowAct, hb24, hb43, hb64, hb73, hb85, cond_true, cond_false, loopE_done, loopE_ret]
       rw [hM266]
       exact ⟨rfl, (Ex.trans (Ex.trans (Ex.trans (Ex.refl w) hE17) hE23) hE264)⟩
     ·have q270 := Box.ex hB16 hE23
      have q272 := RdS.ex good_Str (RdS.ex good_Str h1 hE17) hE23
      have q274 := RdS.ex good_Idx (RdS.ex good_Idx h2 hE17) hE23
      refine CW.drawsI 24 (vgetI [DetI (.agg #[.string (bs (p_t.Name)), .slice A1 p_t.Cols.length c1, .slice A2 p_t.Idxs.length c2]), DetI (.pointer (some ⟨b18, 0 + 1, none⟩)), DetI (.agg #[.slice A4 p_a.Old.Vals.length c4]), DetI (.bool ((i_Table_isRow p_t p_a.Old))), DetI (.bool ((i_Table_isRow p_t p_a.Old))), DetI (.agg #[.string (bs (p_t.Name)), .slice A1 p_t.Cols.length c1, .slice A2 p_t.Idxs.length c2]), DetI (.pointer (some ⟨b18, 0 + 2, none⟩)), DetI (.agg #[.slice A5 p_a.New.Vals.length c5]), DetI (.bool ((i_Table_isRow p_t p_a.New))), DetI (.bool ((i_Table_isRow p_t p_a.New))), DetI (.bool ((i_Table_isRow p_t p_a.New))), DetI (undef), DetI (undef), DetI (undef), DetI (undef), DetI (undef), DetI (undef), DetI (undef), DetI (undef), DetI (undef), DetI (undef), DetI (undef), DetI (.bool (false)), DetI (.bool (false))]) Try.follows rfl rfl rfl rfl rfl rfl (vgetI_stable ⟨StableI.det _, StableI.det _, StableI.det _, StableI.det _, StableI.det _, StableI.det _, StableI.det _, StableI.det _, StableI.det _, StableI.det _, StableI.det _, StableI.det _, StableI.det _, StableI.det _, StableI.det _, StableI.det _, StableI.det _, StableI.det _, StableI.det _, StableI.det _, StableI.det _, StableI.det _, StableI.det _, StableI.det _, trivial⟩) ⟨?_, ?_, ?_, ?_, ?_, ?_, ?_, ?_, ?_, ?_, ?_, ?_, ?_, ?_, ?_, ?_, ?_, ?_, ?_, ?_, ?_, ?_, ?_, ?_, trivial⟩ ?_
      ·exact fun _ _ h => os rfl ((yl_loadN (cs := [.string (bs (p_t.Name)), .slice A1 p_t.Cols.length c1, .slice A2 p_t.Idxs.length c2]) Try.ty65 rfl (h.old 2 _ rfl rfl) ((Box.ex q270 h.ex).cells (n := 3) rfl) rfl kI))
      ·exact fun _ _ h => os rfl ((yl_fieldAddr Try.fd93_1 rfl (h.old 3 _ rfl rfl) kI))
      ·exact fun _ _ h => os rfl ((yl_loadN (cs := [.slice A4 p_a.Old.Vals.length c4]) Try.ty67 rfl (h.dt 1 36 rfl rfl rfl) ((Box.ex hB22 h.ex).cells (n := 1) rfl) rfl kI))
      ·intro L298 w299 hi300
       have hE301 := hi300.ex
       refine OpR.op' rfl (yl_call Try.en167 rfl (opvs_cons (hi300.dt 0 35 rfl rfl rfl) (opvs_cons (hi300.dt 2 37 rfl rfl rfl) opvs_nil)) (Cal.mono (c_i_Table_isRow p_t p_a.Old (RdS.up (RdS.ex good_Str q272 hE301) good_Str) (RdS.up (RdS.ex good_Idx q274 hE301) good_Idx) (RdS.up (RdS.ex good_Str (RdS.ex good_Str (RdS.ex good_Str h4 hE17) hE23) hE301) good_Str) o3 o6.1) ?_))
       rintro v308 w307 ⟨rfl, hE309⟩
       exact ⟨rfl, hE309⟩
      ·exact fun _ _ h => os rfl ((yl_move rfl (h.dt 3 38 rfl rfl rfl) kI))
      ·exact fun _ _ h => OpR.want rfl rfl (h.dt 4 39 rfl rfl rfl) hb73 (Yl.sameI (yl_loadN (cs := [.string (bs (p_t.Name)), .slice A1 p_t.Cols.length c1, .slice A2 p_t.Idxs.length c2]) Try.ty65 rfl (h.old 2 _ rfl rfl) ((Box.ex q270 h.ex).cells (n := 3) rfl) rfl kI))
      ·exact fun _ _ h => OpR.want rfl rfl (h.dt 4 39 rfl rfl rfl) hb73 (Yl.sameI (yl_fieldAddr Try.fd93_2 rfl (h.old 3 _ rfl rfl) kI))
      ·exact fun _ _ h => OpR.want rfl rfl (h.dt 4 39 rfl rfl rfl) hb73 (Yl.sameI (yl_loadN (cs := [.slice A5 p_a.New.Vals.length c5]) Try.ty67 rfl (h.dt 6 41 rfl rfl rfl) ((Box.ex hB22 h.ex).cells (n := 1) rfl) rfl kI))
      ·intro L335 w336 hi337
       have hE338 := hi337.ex
       refine OpR.want rfl rfl (hi337.dt 4 39 rfl rfl rfl) hb73 (yl_call Try.en167 rfl (opvs_cons (hi337.dt 5 40 rfl rfl rfl) (opvs_cons (hi337.dt 7 42 rfl rfl rfl) opvs_nil)) (Cal.mono (c_i_Table_isRow p_t p_a.New (RdS.up (RdS.ex good_Str q272 hE338) good_Str) (RdS.up (RdS.ex good_Idx q274 hE338) good_Idx) (RdS.up (RdS.ex good_Str (RdS.ex good_Str (RdS.ex good_Str h5 hE17) hE23) hE338) good_Str) o3 o6.2) ?_))
       rintro v346 w345 ⟨rfl, hE347⟩
       exact ⟨rfl, hE347⟩
      ·exact fun _ _ h => os rfl ((yl_pick_t rfl (h.dt 4 39 rfl rfl rfl) hb73 (h.dt 8 43 rfl rfl rfl) kI))
      ·exact fun _ _ h => os rfl ((yl_move rfl (h.dt 9 44 rfl rfl rfl) kI))
      ·exact fun _ _ h => OpR.skip rfl rfl (h.dt 10 45 rfl rfl rfl) hb85 ⟨rfl, Ex.refl _⟩
      ·exact fun _ _ h => OpR.skip rfl rfl (h.dt 10 45 rfl rfl rfl) hb85 ⟨rfl, Ex.refl _⟩
      ·exact fun _ _ h => OpR.skip rfl rfl (h.dt 10 45 rfl rfl rfl) hb85 ⟨rfl, Ex.refl _⟩
      ·exact fun _ _ h => OpR.skip rfl rfl (h.dt 10 45 rfl rfl rfl) hb85 ⟨rfl, Ex.refl _⟩
      ·exact fun _ _ h => OpR.skip rfl rfl (h.dt 10 45 rfl rfl rfl) hb85 ⟨rfl, Ex.refl _⟩
      ·exact fun _ _ h => OpR.skip rfl rfl (h.dt 10 45 rfl rfl rfl) hb85 ⟨rfl, Ex.refl _⟩
      ·exact fun _ _ h => OpR.skip rfl rfl (h.dt 10 45 rfl rfl rfl) hb85 ⟨rfl, Ex.refl _⟩
      ·exact fun _ _ h => OpR.skip rfl rfl (h.dt 10 45 rfl rfl rfl) hb85 ⟨rfl, Ex.refl _⟩
      ·exact fun _ _ h => OpR.skip rfl rfl (h.dt 10 45 rfl rfl rfl) hb85 ⟨rfl, Ex.refl _⟩
      ·exact fun _ _ h => OpR.skip rfl rfl (h.dt 10 45 rfl rfl rfl) hb85 ⟨rfl, Ex.refl _⟩
      ·exact fun _ _ h => OpR.skip rfl rfl (h.dt 10 45 rfl rfl rfl) hb85 ⟨rfl, Ex.refl _⟩
      ·exact fun _ _ h => os rfl ((yl_pick_f rfl (h.dt 10 45 rfl rfl rfl) hb85 rfl kI))
      ·exact fun _ _ h => os rfl ((yl_assign rfl (h.dt 22 57 rfl rfl rfl) kI))
      ·intro fl428 fh429 L425 w426 hp427
       have hE430 := hp427.ex
       have hE430z := Ex.size hE430
       refine SeqR.done (tn (CW.sub (Sub.cons (d := 4) (hp427.nt 23 4 rfl rfl rfl) (Sub.nil _)) (CW.ret (br (tr (rr rfl (.cons rfl .nil) ?_))))))
       have hM432 : (i_Table_isRowAct p_t p_a) = (false) := by simp only [i_Table_isRowAct, hb24, hb43, hb64, hb73, hb85, cond_true, cond_false, loopE_done, loopE_ret]
       rw [hM432]
       exact ⟨rfl, (Ex.trans (Ex.trans (Ex.trans (Ex.refl w) hE17) hE23) hE430)⟩
    ·refine CW.drawsI 24 (vgetI [DetI (.agg #[.string (bs (p_t.Name)), .slice A1 p_t.Cols.length c1, .slice A2 p_t.Idxs.length c2]), DetI (.pointer (some ⟨b18, 0 + 1, none⟩)), DetI (.agg #[.slice A4 p_a.Old.Vals.length c4]), DetI (.bool ((i_Table_isRow p_t p_a.Old))), DetI (.bool ((i_Table_isRow p_t p_a.Old))), DetI (undef), DetI (undef), DetI (undef), DetI (undef), DetI (.bool (false)), DetI (.bool (false)), DetI (undef), DetI (undef), DetI (undef), DetI (undef), DetI (undef), DetI (undef), DetI (undef), DetI (undef), DetI (undef), DetI (undef), DetI (undef), DetI (.bool (false)), DetI (.bool (false))]) Try.follows rfl rfl rfl rfl rfl rfl (vgetI_stable ⟨StableI.det _, StableI.det _, StableI.det _, StableI.det _, StableI.det _, StableI.det _, StableI.det _, StableI.det _, StableI.det _, StableI.det _, StableI.det _, StableI.det _, StableI.det _, StableI.det _, StableI.det _, StableI.det _, StableI.det _, StableI.det _, StableI.det _, StableI.det _, StableI.det _, StableI.det _, StableI.det _, StableI.det _, trivial⟩) ⟨?_, ?_, ?_, ?_, ?_, ?_, ?_, ?_, ?_, ?_, ?_, ?_, ?_, ?_, ?_, ?_, ?_, ?_, ?_, ?_, ?_, ?_, ?_, ?_, trivial⟩ ?_
     ·exact fun _ _ h => os rfl ((yl_loadN (cs := [.string (bs (p_t.Name)), .slice A1 p_t.Cols.length c1, .slice A2 p_t.Idxs.length c2]) Try.ty65 rfl (h.old 2 _ rfl rfl) ((Box.ex (Box.ex hB16 hE23) h.ex).cells (n := 3) rfl) rfl kI))
     ·exact fun _ _ h => os rfl ((yl_fieldAddr Try.fd93_1 rfl (h.old 3 _ rfl rfl) kI))
     ·exact fun _ _ h => os rfl ((yl_loadN (cs := [.slice A4 p_a.Old.Vals.length c4]) Try.ty67 rfl (h.dt 1 36 rfl rfl rfl) ((Box.ex hB22 h.ex).cells (n := 1) rfl) rfl kI))
     ·intro L461 w462 hi463
      have hE464 := hi463.ex
      refine OpR.op' rfl (yl_call Try.en167 rfl (opvs_cons (hi463.dt 0 35 rfl rfl rfl) (opvs_cons (hi463.dt 2 37 rfl rfl rfl) opvs_nil)) (Cal.mono (c_i_Table_isRow p_t p_a.Old (RdS.up (RdS.ex good_Str (RdS.ex good_Str (RdS.ex good_Str h1 hE17) hE23) hE464) good_Str) (RdS.up (RdS.ex good_Idx (RdS.ex good_Idx (RdS.ex good_Idx h2 hE17) hE23) hE464) good_Idx) (RdS.up (RdS.ex good_Str (RdS.ex good_Str (RdS.ex good_Str h4 hE17) hE23) hE464) good_Str) o3 o6.1) ?_))
      rintro v471 w470 ⟨rfl, hE472⟩
      exact ⟨rfl, hE472⟩
     ·exact fun _ _ h => os rfl ((yl_move rfl (h.dt 3 38 rfl rfl rfl) kI))
     ·exact fun _ _ h => OpR.skip rfl rfl (h.dt 4 39 rfl rfl rfl) hb73 ⟨rfl, Ex.refl _⟩
     ·exact fun _ _ h => OpR.skip rfl rfl (h.dt 4 39 rfl rfl rfl) hb73 ⟨rfl, Ex.refl _⟩
     ·exact fun _ _ h => OpR.skip rfl rfl (h.dt 4 39 rfl rfl rfl) hb73 ⟨rfl, Ex.refl _⟩
     ·exact fun _ _ h => OpR.skip rfl rfl (h.dt 4 39 rfl rfl rfl) hb73 ⟨rfl, Ex.refl _⟩
     ·exact fun _ _ h => os rfl ((yl_pick_f rfl (h.dt 4 39 rfl rfl rfl) hb73 rfl kI))
     ·exact fun _ _ h => os rfl ((yl_move rfl (h.dt 9 44 rfl rfl rfl) kI))
     ·exact fun _ _ h => OpR.skip rfl rfl (h.dt 10 45 rfl rfl rfl) rfl ⟨rfl, Ex.refl _⟩
     ·exact fun _ _ h => OpR.skip rfl rfl (h.dt 10 45 rfl rfl rfl) rfl ⟨rfl, Ex.refl _⟩
     ·exact fun _ _ h => OpR.skip rfl rfl (h.dt 10 45 rfl rfl rfl) rfl ⟨rfl, Ex.refl _⟩
     ·exact fun _ _ h => OpR.skip rfl rfl (h.dt 10 45 rfl rfl rfl) rfl ⟨rfl, Ex.refl _⟩
     ·exact fun _ _ h => OpR.skip rfl rfl (h.dt 10 45 rfl rfl rfl) rfl ⟨rfl, Ex.refl _⟩
     ·exact fun _ _ h => OpR.skip rfl rfl (h.dt 10 45 rfl rfl rfl) rfl ⟨rfl, Ex.refl _⟩
     ·exact fun _ _ h => OpR.skip rfl rfl (h.dt 10 45 rfl rfl rfl) rfl ⟨rfl, Ex.refl _⟩
     ·exact fun _ _ h => OpR.skip rfl rfl (h.dt 10 45 rfl rfl rfl) rfl ⟨rfl, Ex.refl _⟩
     ·exact fun _ _ h => OpR.skip rfl rfl (h.dt 10 45 rfl rfl rfl) rfl ⟨rfl, Ex.refl _⟩
     ·exact fun _ _ h => OpR.skip rfl rfl (h.dt 10 45 rfl rfl rfl) rfl ⟨rfl, Ex.refl _⟩
     ·exact fun _ _ h => OpR.skip rfl rfl (h.dt 10 45 rfl rfl rfl) rfl ⟨rfl, Ex.refl _⟩
     ·exact fun _ _ h => os rfl ((yl_pick_f rfl (h.dt 10 45 rfl rfl rfl) rfl rfl kI))
     ·exact fun _ _ h => os rfl ((yl_assign rfl (h.dt 22 57 rfl rfl rfl) kI))
     ·intro fl578 fh579 L575 w576 hp577
      have hE580 := hp577.ex
      have hE580z := Ex.size hE580
      refine SeqR.done (tn (CW.sub (Sub.cons (d := 4) (hp577.nt 23 4 rfl rfl rfl) (Sub.nil _)) (CW.ret (br (tr (rr rfl (.cons rfl .nil) ?_))))))
      have hM582 : (i_Table_isRowAct p_t p_a) = (false) := by simp only [i_Table_isRowAct, hb24, hb43, hb64, hb73, cond_true, cond_false, loopE_done, loopE_ret]
      rw [hM582]
      exact ⟨rfl, (Ex.trans (Ex.trans (Ex.trans (Ex.refl w) hE17) hE23) hE580)⟩
   ·have hb64p := dec_f hb64
    refine CW.cond_f rfl hb64 (CW.skip (bn (tn (CW.seq (CW.region (sd rfl (yl_assign rfl rfl (SeqR.done (tn ?_)))))))))
    refine CW.ret (rr rfl (.cons rfl .nil) ?_)
    have hM586 : (i_Table_isRowAct p_t p_a) = (false) := by simp only [i_Table_isRowAct, hb24, hb43, hb64, cond_true, cond_false, loopE_done, loopE_ret]
    rw [hM586]
    exact ⟨rfl, (Ex.trans (Ex.trans (Ex.refl w) hE17) hE23)⟩
set_option maxRecDepth 100000 in
set_option maxHeartbeats 2000000 in
theorem c_i_isBare {A1 : Option Addr} {c1 : Nat} {A2 : Option Addr} {c2 : Nat} {w : World} (p_a : DRowAct) (h1 : RdS w (Iv 0 w.heap.size) (RF e_Str) 1 A1 p_a.Old.Vals.length c1 p_a.Old.Vals) (h2 : RdS w (Iv 0 w.heap.size) (RF e_Str) 1 A2 p_a.New.Vals.length c2 p_a.New.Vals) (o3 : ok_RowAct p_a) : Cal Try.prog 225 #[.agg #[.int .i64 (p_a.Kind), .slice A1 p_a.Old.Vals.length c1, .slice A2 p_a.New.Vals.length c2]] w fun v w' => v = .bool ((i_isBare p_a)) ∧ Ex w w' := by
 have hol4 := o3.1.1
 have hol5 := o3.2.1
 refine Cal.of (vs := [.agg #[.int .i64 (p_a.Kind), .slice A1 p_a.Old.Vals.length c1, .slice A2 p_a.New.Vals.length c2]]) Try.func225 rfl Try.ntmps225 rfl (CW.seq (CW.region (sd rfl (yl_box (cs := [.int .i64 (p_a.Kind), .slice A1 p_a.Old.Vals.length c1, .slice A2 p_a.New.Vals.length c2]) rfl rfl rfl ?_))))
 intro b6 w7 hs8 hz9 hB10 hE11
 refine sd rfl (yl_assign rfl rfl (SeqR.done (tn (CW.seq (CW.region (sd rfl (yl_fieldAddr Try.fd93_0 rfl rfl (sd rfl (yl_load1 Try.ty3 rfl rfl ((hB10.cell 0).trans rfl) (sd rfl (yl_eql rfl rfl rfl (sd rfl (yl_move rfl rfl ?_)))))))))))))
 refine bcase (decide (p_a.Kind = 0)) (fun hb12 => ?_) (fun hb12 => ?_)
 ·have hb12p := dec_t hb12
  refine sy rfl rfl hb12 (yl_fieldAddr Try.fd93_1 rfl rfl (sy rfl rfl hb12 (yl_fieldAddr Try.fd67_0 rfl rfl (sy rfl rfl hb12 (yl_load1 Try.ty52 rfl rfl ((hB10.cell 1).trans rfl) (sy rfl rfl hb12 (yl_len Try.un52 rfl rfl (sy rfl rfl hb12 (yl_eql rfl rfl rfl (sd rfl (yl_pick_t rfl rfl hb12 rfl (sd rfl (yl_move rfl rfl (bcase (decide ((p_a.Old.Vals.length : Int) = 0)) (fun hb13 => ?_) (fun hb13 => ?_)))))))))))))))
  ·have hb13p := dec_t hb13
   refine sy rfl rfl hb13 (yl_fieldAddr Try.fd93_2 rfl rfl (sy rfl rfl hb13 (yl_fieldAddr Try.fd67_0 rfl rfl (sy rfl rfl hb13 (yl_load1 Try.ty52 rfl rfl ((hB10.cell 2).trans rfl) (sy rfl rfl hb13 (yl_len Try.un52 rfl rfl (sy rfl rfl hb13 (yl_eql rfl rfl rfl (sd rfl (yl_pick_t rfl rfl hb13 rfl (sd rfl (yl_assign rfl rfl (SeqR.done (tn ?_)))))))))))))))
   refine CW.ret (rr rfl (.cons rfl .nil) ?_)
   have hM14 : (i_isBare p_a) = (decide ((p_a.New.Vals.length : Int) = 0)) := by simp only [i_isBare, hb12, hb13, cond_true, cond_false, loopE_done, loopE_ret]
   rw [hM14]
   exact ⟨rfl, (Ex.trans (Ex.refl w) hE11)⟩
  ·have hb13p := dec_f hb13
   refine sz rfl rfl hb13 (sz rfl rfl hb13 (sz rfl rfl hb13 (sz rfl rfl hb13 (sz rfl rfl hb13 (sd rfl (yl_pick_f rfl rfl hb13 rfl (sd rfl (yl_assign rfl rfl (SeqR.done (tn ?_))))))))))
   refine CW.ret (rr rfl (.cons rfl .nil) ?_)
   have hM16 : (i_isBare p_a) = (false) := by simp only [i_isBare, hb12, hb13, cond_true, cond_false, loopE_done, loopE_ret]
   rw [hM16]
   exact ⟨rfl, (Ex.trans (Ex.refl w) hE11)⟩
 ·have hb12p := dec_f hb12
  refine sz rfl rfl hb12 (sz rfl rfl hb12 (sz rfl rfl hb12 (sz rfl rfl hb12 (sz rfl rfl hb12 (sd rfl (yl_pick_f rfl rfl hb12 rfl (sd rfl (yl_move rfl rfl (sz rfl rfl rfl (sz rfl rfl rfl ?_))))))))))
  refine sz rfl rfl rfl (sz rfl rfl rfl (sz rfl rfl rfl (sd rfl (yl_pick_f rfl rfl rfl rfl (sd rfl (yl_assign rfl rfl (SeqR.done (tn (CW.ret (rr rfl (.cons rfl .nil) ?_))))))))))
  have hM18 : (i_isBare p_a) = (false) := by simp only [i_isBare, hb12, cond_true, cond_false, loopE_done, loopE_ret]
  rw [hM18]
  exact ⟨rfl, (Ex.trans (Ex.refl w) hE11)⟩
set_option maxRecDepth 100000 in
set_option maxHeartbeats 2000000 in
theorem c_i_Table_isStmt {A1 : Option Addr} {c1 : Nat} {A2 : Option Addr} {c2 : Nat} {A4 : Option Addr} {c4 : Nat} {A5 : Option Addr} {c5 : Nat} {w : World} (p_0 : DTable) (p_1 : DStmt) (h1 : RdS w (Iv 0 w.heap.size) (RF e_Str) 1 A1 p_0.Cols.length c1 p_0.Cols) (h2 : RdS w (Iv 0 w.heap.size) (RF e_Idx) 3 A2 p_0.Idxs.length c2 p_0.Idxs) (h4 : RdS w (Iv 0 w.heap.size) (RF e_Str) 1 A4 p_1.Act.Old.Vals.length c4 p_1.Act.Old.Vals) (h5 : RdS w (Iv 0 w.heap.size) (RF e_Str) 1 A5 p_1.Act.New.Vals.length c5 p_1.Act.New.Vals) (o3 : ok_Table p_0) (o6 : ok_Stmt p_1) (pre0 : 0 < p_0.Cols.length) : Cal Try.prog 183 #[.agg #[.string (bs (p_0.Name)), .slice A1 p_0.Cols.length c1, .slice A2 p_0.Idxs.length c2], .agg #[.int .i64 (p_1.Kind), .int .i64 (p_1.Act.Kind), .slice A4 p_1.Act.Old.Vals.length c4, .slice A5 p_1.Act.New.Vals.length c5, .string (bs (p_1.Idx)), .string (bs (p_1.Low)), .string (bs (p_1.High))]] w fun v w' => v = .bool ((i_Table_isStmt p_0 p_1)) ∧ Ex w w' := by
 have hol7 : p_0.Name.length ≤ 1073741824 := o3.1
 have hol8 := o3.2.1.1
 have hol9 := o3.2.2.1
 have hol10 := o6.1.1.1
 have hol11 := o6.1.2.1
 have hol12 : p_1.Idx.length ≤ 1073741824 := o6.2.1
 have hol13 : p_1.Low.length ≤ 1073741824 := o6.2.2.1
 have hol14 : p_1.High.length ≤ 1073741824 := o6.2.2.2
 refine Cal.of (vs := [.agg #[.string (bs (p_0.Name)), .slice A1 p_0.Cols.length c1, .slice A2 p_0.Idxs.length c2], .agg #[.int .i64 (p_1.Kind), .int .i64 (p_1.Act.Kind), .slice A4 p_1.Act.Old.Vals.length c4, .slice A5 p_1.Act.New.Vals.length c5, .string (bs (p_1.Idx)), .string (bs (p_1.Low)), .string (bs (p_1.High))]]) Try.func183 rfl Try.ntmps183 rfl (CW.seq (CW.region (sd rfl (yl_box (cs := [.string (bs (p_0.Name)), .slice A1 p_0.Cols.length c1, .slice A2 p_0.Idxs.length c2]) rfl rfl rfl ?_))))
 intro b15 w16 hs17 hz18 hB19 hE20
 refine sd rfl (yl_box (cs := [.int .i64 (p_1.Kind), .int .i64 (p_1.Act.Kind), .slice A4 p_1.Act.Old.Vals.length c4, .slice A5 p_1.Act.New.Vals.length c5, .string (bs (p_1.Idx)), .string (bs (p_1.Low)), .string (bs (p_1.High))]) rfl rfl rfl ?_)
 intro b21 w22 hs23 hz24 hB25 hE26
 refine sd rfl (yl_assign rfl rfl (SeqR.done (tn (CW.seq (CW.seq (CW.region (sd rfl (yl_fieldAddr Try.fd103_0 rfl rfl (sd rfl (yl_load1 Try.ty3 rfl rfl ((hB25.cell 0).trans rfl) (SeqR.done ?_)))))))))))
 refine tn (CW.block (CW.seq (CW.region (sd rfl (yl_eql rfl rfl rfl (sd rfl (yl_assign rfl rfl (SeqR.done (tn (bcase (decide (p_1.Kind = 1)) (fun hb27 => ?_) (fun hb27 => ?_)))))))))))
 ·have hb27p := dec_t hb27
  refine CW.cond_t rfl hb27 (CW.seq (CW.region (sd rfl (yl_loadN (cs := [.string (bs (p_0.Name)), .slice A1 p_0.Cols.length c1, .slice A2 p_0.Idxs.length c2]) Try.ty65 rfl rfl ((Box.ex hB19 hE26).cells (n := 3) rfl) rfl (sd rfl (yl_fieldAddr Try.fd103_1 rfl rfl (sd rfl (yl_loadN (cs := [.int .i64 (p_1.Act.Kind), .slice A4 p_1.Act.Old.Vals.length c4, .slice A5 p_1.Act.New.Vals.length c5]) Try.ty93 rfl rfl (hB25.cells (n := 3) rfl) rfl (sd rfl (yl_call Try.en178 rfl (opvs_cons rfl (opvs_cons rfl opvs_nil)) (Cal.mono (c_i_Table_isRowAct p_0 p_1.Act (RdS.up (RdS.ex good_Str (RdS.ex good_Str h1 hE20) hE26) good_Str) (RdS.up (RdS.ex good_Idx (RdS.ex good_Idx h2 hE20) hE26) good_Idx) (RdS.up (RdS.ex good_Str (RdS.ex good_Str h4 hE20) hE26) good_Str) (RdS.up (RdS.ex good_Str (RdS.ex good_Str h5 hE20) hE26) good_Str) o3 o6.1 (by first | omega | assumption | (simp only [IntKind.wrap_i64] at *; omega))) ?_)))))))))))
  rintro v38 w37 ⟨rfl, hE39⟩
  have hE39z := Ex.size hE39
  refine sd rfl (yl_move rfl rfl (bcase (i_Table_isRowAct p_0 p_1.Act) (fun hb40 => ?_) (fun hb40 => ?_)))
  ·refine sy rfl rfl hb40 (yl_fieldAddr Try.fd103_2 rfl rfl ?_)
   have q41 := Box.ex hB25 hE39
   refine sy rfl rfl hb40 (yl_load1 Try.ty9 rfl rfl ((q41.cell 4).trans rfl) (sy rfl rfl hb40 (yl_seql (a := p_1.Idx) (b := ([] : Str)) rfl rfl rfl (sd rfl (yl_pick_t rfl rfl hb40 rfl (sd rfl (yl_move rfl rfl (bcase (p_1.Idx == ([] : Str)) (fun hb42 => ?_) (fun hb42 => ?_)))))))))
   ·refine sy rfl rfl hb42 (yl_fieldAddr Try.fd103_3 rfl rfl (sy rfl rfl hb42 (yl_load1 Try.ty9 rfl rfl ((q41.cell 5).trans rfl) (sy rfl rfl hb42 (yl_seql (a := p_1.Low) (b := ([] : Str)) rfl rfl rfl (sd rfl (yl_pick_t rfl rfl hb42 rfl (sd rfl (yl_move rfl rfl (bcase (p_1.Low == ([] : Str)) (fun hb43 => ?_) (fun hb43 => ?_)))))))))))
    ·refine sy rfl rfl hb43 (yl_fieldAddr Try.fd103_4 rfl rfl (sy rfl rfl hb43 (yl_load1 Try.ty9 rfl rfl ((q41.cell 6).trans rfl) (sy rfl rfl hb43 (yl_seql (a := p_1.High) (b := ([] : Str)) rfl rfl rfl (sd rfl (yl_pick_t rfl rfl hb43 rfl (sd rfl (yl_assign rfl rfl (SeqR.done (tn (CW.ret (br ?_)))))))))))))
     refine tr (rr rfl (.cons rfl .nil) ?_)
     have hM44 : (i_Table_isStmt p_0 p_1) = (p_1.High == ([] : Str)) := by simp only [i_Table_isStmt, hb27, hb40, hb42, hb43, cond_true, cond_false, loopE_done, loopE_ret]
     rw [hM44]
     exact ⟨rfl, (Ex.trans (Ex.trans (Ex.trans (Ex.refl w) hE20) hE26) hE39)⟩
    ·refine sz rfl rfl hb43 (sz rfl rfl hb43 (sz rfl rfl hb43 (sd rfl (yl_pick_f rfl rfl hb43 rfl (sd rfl (yl_assign rfl rfl (SeqR.done (tn (CW.ret (br ?_))))))))))
     refine tr (rr rfl (.cons rfl .nil) ?_)
     have hM48 : (i_Table_isStmt p_0 p_1) = (false) := by simp only [i_Table_isStmt, hb27, hb40, hb42, hb43, cond_true, cond_false, loopE_done, loopE_ret]
     rw [hM48]
     exact ⟨rfl, (Ex.trans (Ex.trans (Ex.trans (Ex.refl w) hE20) hE26) hE39)⟩
   ·refine sz rfl rfl hb42 (sz rfl rfl hb42 (sz rfl rfl hb42 (sd rfl (yl_pick_f rfl rfl hb42 rfl (sd rfl (yl_move rfl rfl (sz rfl rfl rfl (sz rfl rfl rfl (sz rfl rfl rfl (sd rfl (yl_pick_f rfl rfl rfl rfl ?_)))))))))))
    refine sd rfl (yl_assign rfl rfl (SeqR.done (tn (CW.ret (br (tr (rr rfl (.cons rfl .nil) ?_)))))))
    have hM52 : (i_Table_isStmt p_0 p_1) = (false) := by simp only [i_Table_isStmt, hb27, hb40, hb42, cond_true, cond_false, loopE_done, loopE_ret]
    rw [hM52]
    exact ⟨rfl, (Ex.trans (Ex.trans (Ex.trans (Ex.refl w) hE20) hE26) hE39)⟩
  ·refine sz rfl rfl hb40 (sz rfl rfl hb40 (sz rfl rfl hb40 (sd rfl (yl_pick_f rfl rfl hb40 rfl (sd rfl (yl_move rfl rfl (sz rfl rfl rfl (sz rfl rfl rfl (sz rfl rfl rfl (sd rfl (yl_pick_f rfl rfl rfl rfl ?_)))))))))))
   refine sd rfl (yl_move rfl rfl (sz rfl rfl rfl (sz rfl rfl rfl (sz rfl rfl rfl (sd rfl (yl_pick_f rfl rfl rfl rfl (sd rfl (yl_assign rfl rfl (SeqR.done (tn (CW.ret ?_)))))))))))
   refine br (tr (rr rfl (.cons rfl .nil) ?_))
   have hM56 : (i_Table_isStmt p_0 p_1) = (false) := by simp only [i_Table_isStmt, hb27, hb40, cond_true, cond_false, loopE_done, loopE_ret]
   rw [hM56]
   exact ⟨rfl, (Ex.trans (Ex.trans (Ex.trans (Ex.refl w) hE20) hE26) hE39)⟩
 ·have hb27p := dec_f hb27
  refine CW.cond_f rfl hb27 (CW.seq (CW.region (sd rfl (yl_eql rfl rfl rfl (sd rfl (yl_assign rfl rfl (SeqR.done (tn (bcase (decide (p_1.Kind = 2)) (fun hb60 => ?_) (fun hb60 => ?_))))))))))
  ·have hb60p := dec_t hb60
   refine CW.cond_t rfl hb60 (CW.seq (CW.region (sd rfl (yl_fieldAddr Try.fd103_1 rfl rfl (sd rfl (yl_loadN (cs := [.int .i64 (p_1.Act.Kind), .slice A4 p_1.Act.Old.Vals.length c4, .slice A5 p_1.Act.New.Vals.length c5]) Try.ty93 rfl rfl (hB25.cells (n := 3) rfl) rfl (sd rfl (yl_call Try.en225 rfl (opvs_cons rfl opvs_nil) (Cal.mono (c_i_isBare p_1.Act (RdS.up (RdS.ex good_Str (RdS.ex good_Str h4 hE20) hE26) good_Str) (RdS.up (RdS.ex good_Str (RdS.ex good_Str h5 hE20) hE26) good_Str) o6.1) ?_)))))))))
   rintro v66 w65 ⟨rfl, hE67⟩
   have hE67z := Ex.size hE67
   refine sd rfl (yl_move rfl rfl (bcase (i_isBare p_1.Act) (fun hb68 => ?_) (fun hb68 => ?_)))
   ·refine sy rfl rfl hb68 (yl_fieldAddr Try.fd103_2 rfl rfl ?_)
    have q69 := Box.ex hB25 hE67
    refine sy rfl rfl hb68 (yl_load1 Try.ty9 rfl rfl ((q69.cell 4).trans rfl) (sy rfl rfl hb68 (yl_seql (a := p_1.Idx) (b := ([] : Str)) rfl rfl rfl (sd rfl (yl_pick_t rfl rfl hb68 rfl (sd rfl (yl_move rfl rfl (bcase (p_1.Idx == ([] : Str)) (fun hb70 => ?_) (fun hb70 => ?_)))))))))
    ·refine sy rfl rfl hb70 (yl_fieldAddr Try.fd103_3 rfl rfl (sy rfl rfl hb70 (yl_load1 Try.ty9 rfl rfl ((q69.cell 5).trans rfl) (sy rfl rfl hb70 (yl_call Try.en215 rfl (opvs_cons rfl opvs_nil) (Cal.mono (c_i_isField p_1.Low o6.2.2.1) ?_))))))
     rintro v72 w71 ⟨rfl, hE73⟩
     have hE73z := Ex.size hE73
     refine sd rfl (yl_pick_t rfl rfl hb70 rfl (sd rfl (yl_move rfl rfl (bcase (i_isField p_1.Low) (fun hb74 => ?_) (fun hb74 => ?_)))))
     ·refine sy rfl rfl hb74 (yl_fieldAddr Try.fd103_4 rfl rfl (sy rfl rfl hb74 (yl_load1 Try.ty9 rfl rfl (((Box.ex q69 hE73).cell 6).trans rfl) (sy rfl rfl hb74 (yl_seql (a := p_1.High) (b := ([] : Str)) rfl rfl rfl (sd rfl (yl_pick_t rfl rfl hb74 rfl (sd rfl (yl_assign rfl rfl (SeqR.done (tn (CW.ret (br ?_)))))))))))))
      refine tr (rr rfl (.cons rfl .nil) ?_)
      have hM76 : (i_Table_isStmt p_0 p_1) = (p_1.High == ([] : Str)) := by simp only [i_Table_isStmt, hb27, hb60, hb68, hb70, hb74, cond_true, cond_false, loopE_done, loopE_ret]
      rw [hM76]
      exact ⟨rfl, (Ex.trans (Ex.trans (Ex.trans (Ex.trans (Ex.refl w) hE20) hE26) hE67) hE73)⟩
     ·refine sz rfl rfl hb74 (sz rfl rfl hb74 (sz rfl rfl hb74 (sd rfl (yl_pick_f rfl rfl hb74 rfl (sd rfl (yl_assign rfl rfl (SeqR.done (tn (CW.ret (br ?_))))))))))
      refine tr (rr rfl (.cons rfl .nil) ?_)
      have hM81 : (i_Table_isStmt p_0 p_1) = (false) := by simp only [i_Table_isStmt, hb27, hb60, hb68, hb70, hb74, cond_true, cond_false, loopE_done, loopE_ret]
      rw [hM81]
      exact ⟨rfl, (Ex.trans (Ex.trans (Ex.trans (Ex.trans (Ex.refl w) hE20) hE26) hE67) hE73)⟩
    ·refine sz rfl rfl hb70 (sz rfl rfl hb70 (sz rfl rfl hb70 (sd rfl (yl_pick_f rfl rfl hb70 rfl (sd rfl (yl_move rfl rfl (sz rfl rfl rfl (sz rfl rfl rfl (sz rfl rfl rfl (sd rfl (yl_pick_f rfl rfl rfl rfl ?_)))))))))))
     refine sd rfl (yl_assign rfl rfl (SeqR.done (tn (CW.ret (br (tr (rr rfl (.cons rfl .nil) ?_)))))))
     have hM86 : (i_Table_isStmt p_0 p_1) = (false) := by simp only [i_Table_isStmt, hb27, hb60, hb68, hb70, cond_true, cond_false, loopE_done, loopE_ret]
     rw [hM86]
     exact ⟨rfl, (Ex.trans (Ex.trans (Ex.trans (Ex.refl w) hE20) hE26) hE67)⟩
   ·refine sz rfl rfl hb68 (sz rfl rfl hb68 (sz rfl rfl hb68 (sd rfl (yl_pick_f rfl rfl hb68 rfl (sd rfl (yl_move rfl rfl (sz rfl rfl rfl (sz rfl rfl rfl (sz rfl rfl rfl (sd rfl (yl_pick_f rfl rfl rfl rfl ?_)))))))))))
    refine sd rfl (yl_move rfl rfl (sz rfl rfl rfl (sz rfl rfl rfl (sz rfl rfl rfl (sd rfl (yl_pick_f rfl rfl rfl rfl (sd rfl (yl_assign rfl rfl (SeqR.done (tn (CW.ret ?_)))))))))))
    refine br (tr (rr rfl (.cons rfl .nil) ?_))
    have hM90 : (i_Table_isStmt p_0 p_1) = (false) := by simp only [i_Table_isStmt, hb27, hb60, hb68, cond_true, cond_false, loopE_done, loopE_ret]
    rw [hM90]
    exact ⟨rfl, (Ex.trans (Ex.trans (Ex.trans (Ex.refl w) hE20) hE26) hE67)⟩
  ·have hb60p := dec_f hb60
   refine CW.cond_f rfl hb60 (CW.seq (CW.region (sd rfl (yl_eql rfl rfl rfl (sd rfl (yl_assign rfl rfl (SeqR.done (tn (bcase (decide (p_1.Kind = 3)) (fun hb94 => ?_) (fun hb94 => ?_))))))))))
   ·have hb94p := dec_t hb94
    refine CW.cond_t rfl hb94 (CW.seq (CW.region (sd rfl (yl_fieldAddr Try.fd103_1 rfl rfl (sd rfl (yl_loadN (cs := [.int .i64 (p_1.Act.Kind), .slice A4 p_1.Act.Old.Vals.length c4, .slice A5 p_1.Act.New.Vals.length c5]) Try.ty93 rfl rfl (hB25.cells (n := 3) rfl) rfl (sd rfl (yl_call Try.en225 rfl (opvs_cons rfl opvs_nil) (Cal.mono (c_i_isBare p_1.Act (RdS.up (RdS.ex good_Str (RdS.ex good_Str h4 hE20) hE26) good_Str) (RdS.up (RdS.ex good_Str (RdS.ex good_Str h5 hE20) hE26) good_Str) o6.1) ?_)))))))))
    rintro v100 w99 ⟨rfl, hE101⟩
    have hE101z := Ex.size hE101
    refine sd rfl (yl_move rfl rfl (bcase (i_isBare p_1.Act) (fun hb102 => ?_) (fun hb102 => ?_)))
    ·refine sy rfl rfl hb102 (yl_loadN (cs := [.string (bs (p_0.Name)), .slice A1 p_0.Cols.length c1, .slice A2 p_0.Idxs.length c2]) Try.ty65 rfl rfl ((Box.ex (Box.ex hB19 hE26) hE101).cells (n := 3) rfl) rfl (sy rfl rfl hb102 (yl_fieldAddr Try.fd103_2 rfl rfl ?_)))
     have q105 := Box.ex hB25 hE101
     refine sy rfl rfl hb102 (yl_load1 Try.ty9 rfl rfl ((q105.cell 4).trans rfl) (sy rfl rfl hb102 (yl_call Try.en168 rfl (opvs_cons rfl (opvs_cons rfl opvs_nil)) (Cal.mono (c_i_Table_findIdx p_0 p_1.Idx (RdS.up (RdS.ex good_Str (RdS.ex good_Str (RdS.ex good_Str h1 hE20) hE26) hE101) good_Str) (RdS.up (RdS.ex good_Idx (RdS.ex good_Idx (RdS.ex good_Idx h2 hE20) hE26) hE101) good_Idx) o3 o6.2.1) ?_))))
     rintro v113 w112 ⟨rfl, hE114⟩
     have hE114z := Ex.size hE114
     have hrf115 := rf_i_findIdx p_0 p_1.Idx
     refine sy rfl rfl hb102 (yl_geq rfl rfl rfl (sd rfl (yl_pick_t rfl rfl hb102 rfl (sd rfl (yl_move rfl rfl (bcase (decide (0 ≤ (i_Table_findIdx p_0 p_1.Idx))) (fun hb116 => ?_) (fun hb116 => ?_)))))))
     ·have hb116p := dec_t hb116
      refine sy rfl rfl hb116 (yl_fieldAddr Try.fd103_3 rfl rfl ?_)
      have q117 := Box.ex q105 hE114
      refine sy rfl rfl hb116 (yl_load1 Try.ty9 rfl rfl ((q117.cell 5).trans rfl) (sy rfl rfl hb116 (yl_call Try.en215 rfl (opvs_cons rfl opvs_nil) (Cal.mono (c_i_isField p_1.Low o6.2.2.1) ?_))))
      rintro v119 w118 ⟨rfl, hE120⟩
      have hE120z := Ex.size hE120
      refine sd rfl (yl_pick_t rfl rfl hb116 rfl (sd rfl (yl_move rfl rfl (bcase (i_isField p_1.Low) (fun hb121 => ?_) (fun hb121 => ?_)))))
      ·refine sy rfl rfl hb121 (yl_fieldAddr Try.fd103_4 rfl rfl (sy rfl rfl hb121 (yl_load1 Try.ty9 rfl rfl (((Box.ex q117 hE120).cell 6).trans rfl) (sy rfl rfl hb121 (yl_call Try.en215 rfl (opvs_cons rfl opvs_nil) (Cal.mono (c_i_isField p_1.High o6.2.2.2) ?_))))))
       rintro v124 w123 ⟨rfl, hE125⟩
       have hE125z := Ex.size hE125
       refine sd rfl (yl_pick_t rfl rfl hb121 rfl (sd rfl (yl_assign rfl rfl (SeqR.done (tn (CW.ret (br (tr (rr rfl (.cons rfl .nil) ?_)))))))))
       have hM126 : (i_Table_isStmt p_0 p_1) = ((i_isField p_1.High)) := by simp only [i_Table_isStmt, hb27, hb60, hb94, hb102, hb116, hb121, cond_true, cond_false, loopE_done, loopE_ret]
       rw [hM126]
       exact ⟨rfl, (Ex.trans (Ex.trans (Ex.trans (Ex.trans (Ex.trans (Ex.trans (Ex.refl w) hE20) hE26) hE101) hE114) hE120) hE125)⟩
      ·refine sz rfl rfl hb121 (sz rfl rfl hb121 (sz rfl rfl hb121 (sd rfl (yl_pick_f rfl rfl hb121 rfl (sd rfl (yl_assign rfl rfl (SeqR.done (tn (CW.ret (br ?_))))))))))
       refine tr (rr rfl (.cons rfl .nil) ?_)
       have hM133 : (i_Table_isStmt p_0 p_1) = (false) := by simp only [i_Table_isStmt, hb27, hb60, hb94, hb102, hb116, hb121, cond_true, cond_false, loopE_done, loopE_ret]
       rw [hM133]
       exact ⟨rfl, (Ex.trans (Ex.trans (Ex.trans (Ex.trans (Ex.trans (Ex.refl w) hE20) hE26) hE101) hE114) hE120)⟩
     ·have hb116p := dec_f hb116
      refine sz rfl rfl hb116 (sz rfl rfl hb116 (sz rfl rfl hb116 (sd rfl (yl_pick_f rfl rfl hb116 rfl (sd rfl (yl_move rfl rfl (sz rfl rfl rfl (sz rfl rfl rfl (sz rfl rfl rfl (sd rfl (yl_pick_f rfl rfl rfl rfl ?_)))))))))))
      refine sd rfl (yl_assign rfl rfl (SeqR.done (tn (CW.ret (br (tr (rr rfl (.cons rfl .nil) ?_)))))))
      have hM139 : (i_Table_isStmt p_0 p_1) = (false) := by simp only [i_Table_isStmt, hb27, hb60, hb94, hb102, hb116, cond_true, cond_false, loopE_done, loopE_ret]
      rw [hM139]
      exact ⟨rfl, (Ex.trans (Ex.trans (Ex.trans (Ex.trans (Ex.refl w) hE20) hE26) hE101) hE114)⟩
    ·refine sz rfl rfl hb102 (sz rfl rfl hb102 (sz rfl rfl hb102 (sz rfl rfl hb102 (sz rfl rfl hb102 (sd rfl (yl_pick_f rfl rfl hb102 rfl (sd rfl (yl_move rfl rfl (sz rfl rfl rfl (sz rfl rfl rfl ?_))))))))))
     refine sz rfl rfl rfl (sd rfl (yl_pick_f rfl rfl rfl rfl (sd rfl (yl_move rfl rfl (sz rfl rfl rfl (sz rfl rfl rfl (sz rfl rfl rfl (sd rfl (yl_pick_f rfl rfl rfl rfl (sd rfl (yl_assign rfl rfl (SeqR.done ?_))))))))))))
     refine tn (CW.ret (br (tr (rr rfl (.cons rfl .nil) ?_))))
     have hM144 : (i_Table_isStmt p_0 p_1) = (false) := by simp only [i_Table_isStmt, hb27, hb60, hb94, hb102, cond_true, cond_false, loopE_done, loopE_ret]
     rw [hM144]
     exact ⟨rfl, (Ex.trans (Ex.trans (Ex.trans (Ex.refl w) hE20) hE26) hE101)⟩
   ·have hb94p := dec_f hb94
    refine CW.cond_f rfl hb94 (CW.skip (bn (tn (CW.seq (CW.region (sd rfl (yl_assign rfl rfl (SeqR.done (tn ?_)))))))))
    refine CW.ret (rr rfl (.cons rfl .nil) ?_)
    have hM148 : (i_Table_isStmt p_0 p_1) = (false) := by simp only [i_Table_isStmt, hb27, hb60, hb94, cond_true, cond_false, loopE_done, loopE_ret]
    rw [hM148]
    exact ⟨rfl, (Ex.trans (Ex.trans (Ex.refl w) hE20) hE26)⟩
set_option maxRecDepth 100000 in
set_option maxHeartbeats 2000000 in
theorem c_i_GoodStmt {A1 : Option Addr} {c1 : Nat} {A2 : Option Addr} {c2 : Nat} {A4 : Option Addr} {c4 : Nat} {A5 : Option Addr} {c5 : Nat} {w : World} (p_t : DTable) (p_s : DStmt) (h1 : RdS w (Iv 0 w.heap.size) (RF e_Str) 1 A1 p_t.Cols.length c1 p_t.Cols) (h2 : RdS w (Iv 0 w.heap.size) (RF e_Idx) 3 A2 p_t.Idxs.length c2 p_t.Idxs) (h4 : RdS w (Iv 0 w.heap.size) (RF e_Str) 1 A4 p_s.Act.Old.Vals.length c4 p_s.Act.Old.Vals) (h5 : RdS w (Iv 0 w.heap.size) (RF e_Str) 1 A5 p_s.Act.New.Vals.length c5 p_s.Act.New.Vals) (o3 : ok_Table p_t) (o6 : ok_Stmt p_s) : Cal Try.prog 128 #[.agg #[.string (bs (p_t.Name)), .slice A1 p_t.Cols.length c1, .slice A2 p_t.Idxs.length c2], .agg #[.int .i64 (p_s.Kind), .int .i64 (p_s.Act.Kind), .slice A4 p_s.Act.Old.Vals.length c4, .slice A5 p_s.Act.New.Vals.length c5, .string (bs (p_s.Idx)), .string (bs (p_s.Low)), .string (bs (p_s.High))]] w fun v w' => v = .bool ((i_GoodStmt p_t p_s)) ∧ Ex w w' := by
 have hol7 : p_t.Name.length ≤ 1073741824 := o3.1
 have hol8 := o3.2.1.1
 have hol9 := o3.2.2.1
 have hol10 := o6.1.1.1
 have hol11 := o6.1.2.1
 have hol12 : p_s.Idx.length ≤ 1073741824 := o6.2.1
 have hol13 : p_s.Low.length ≤ 1073741824 := o6.2.2.1
 have hol14 : p_s.High.length ≤ 1073741824 := o6.2.2.2
 refine Cal.of (vs := [.agg #[.string (bs (p_t.Name)), .slice A1 p_t.Cols.length c1, .slice A2 p_t.Idxs.length c2], .agg #[.int .i64 (p_s.Kind), .int .i64 (p_s.Act.Kind), .slice A4 p_s.Act.Old.Vals.length c4, .slice A5 p_s.Act.New.Vals.length c5, .string (bs (p_s.Idx)), .string (bs (p_s.Low)), .string (bs (p_s.High))]]) Try.func128 rfl Try.ntmps128 rfl (CW.seq (CW.region (sd rfl (yl_box (cs := [.string (bs (p_t.Name)), .slice A1 p_t.Cols.length c1, .slice A2 p_t.Idxs.length c2]) rfl rfl rfl ?_))))
 intro b15 w16 hs17 hz18 hB19 hE20
 refine sd rfl (yl_box (cs := [.int .i64 (p_s.Kind), .int .i64 (p_s.Act.Kind), .slice A4 p_s.Act.Old.Vals.length c4, .slice A5 p_s.Act.New.Vals.length c5, .string (bs (p_s.Idx)), .string (bs (p_s.Low)), .string (bs (p_s.High))]) rfl rfl rfl ?_)
 intro b21 w22 hs23 hz24 hB25 hE26
 refine sd rfl (yl_assign rfl rfl (SeqR.done (tn (CW.seq (CW.region ?_)))))
 have q27 := Box.ex hB19 hE26
 refine sd rfl (yl_loadN (cs := [.string (bs (p_t.Name)), .slice A1 p_t.Cols.length c1, .slice A2 p_t.Idxs.length c2]) Try.ty65 rfl rfl (q27.cells (n := 3) rfl) rfl ?_)
 have q29 := RdS.ex good_Str (RdS.ex good_Str h1 hE20) hE26
 have q31 := RdS.ex good_Idx (RdS.ex good_Idx h2 hE20) hE26
 refine sd rfl (yl_call Try.en166 rfl (opvs_cons rfl opvs_nil) (Cal.mono (c_i_GoodTable p_t (RdS.up q29 good_Str) (RdS.up q31 good_Idx) o3) ?_))
 rintro v33 w32 ⟨rfl, hE34⟩
 have hE34z := Ex.size hE34
 refine sd rfl (yl_move rfl rfl (bcase (i_GoodTable p_t) (fun hb35 => ?_) (fun hb35 => ?_)))
 ·have hb35p := f_i_GoodTable hb35
  refine sy rfl rfl hb35 (yl_loadN (cs := [.string (bs (p_t.Name)), .slice A1 p_t.Cols.length c1, .slice A2 p_t.Idxs.length c2]) Try.ty65 rfl rfl ((Box.ex q27 hE34).cells (n := 3) rfl) rfl (sy rfl rfl hb35 (yl_loadN (cs := [.int .i64 (p_s.Kind), .int .i64 (p_s.Act.Kind), .slice A4 p_s.Act.Old.Vals.length c4, .slice A5 p_s.Act.New.Vals.length c5, .string (bs (p_s.Idx)), .string (bs (p_s.Low)), .string (bs (p_s.High))]) Try.ty103 rfl rfl ((Box.ex hB25 hE34).cells (n := 7) rfl) rfl (sy rfl rfl hb35 (yl_call Try.en183 rfl (opvs_cons rfl (opvs_cons rfl opvs_nil)) (Cal.mono (c_i_Table_isStmt p_t p_s (RdS.up (RdS.ex good_Str q29 hE34) good_Str) (RdS.up (RdS.ex good_Idx q31 hE34) good_Idx) (RdS.up (RdS.ex good_Str (RdS.ex good_Str (RdS.ex good_Str h4 hE20) hE26) hE34) good_Str) (RdS.up (RdS.ex good_Str (RdS.ex good_Str (RdS.ex good_Str h5 hE20) hE26) hE34) good_Str) o3 o6 (by first | omega | assumption | (simp only [IntKind.wrap_i64] at *; omega))) ?_))))))
  rintro v47 w46 ⟨rfl, hE48⟩
  have hE48z := Ex.size hE48
  refine sd rfl (yl_pick_t rfl rfl hb35 rfl (sd rfl (yl_assign rfl rfl (SeqR.done (tn (CW.ret (rr rfl (.cons rfl .nil) ?_)))))))
  have hM49 : (i_GoodStmt p_t p_s) = ((i_Table_isStmt p_t p_s)) := by simp only [i_GoodStmt, hb35, cond_true, cond_false, loopE_done, loopE_ret]
  rw [hM49]
  exact ⟨rfl, (Ex.trans (Ex.trans (Ex.trans (Ex.trans (Ex.refl w) hE20) hE26) hE34) hE48)⟩
 ·refine sz rfl rfl hb35 (sz rfl rfl hb35 (sz rfl rfl hb35 (sd rfl (yl_pick_f rfl rfl hb35 rfl (sd rfl (yl_assign rfl rfl (SeqR.done (tn (CW.ret (rr rfl (.cons rfl .nil) ?_))))))))))
  have hM54 : (i_GoodStmt p_t p_s) = (false) := by simp only [i_GoodStmt, hb35, cond_true, cond_false, loopE_done, loopE_ret]
  rw [hM54]
  exact ⟨rfl, (Ex.trans (Ex.trans (Ex.trans (Ex.refl w) hE20) hE26) hE34)⟩
set_option maxRecDepth 100000 in
set_option maxHeartbeats 2000000 in
theorem c_i_StmtOps {A1 : Option Addr} {c1 : Nat} {A2 : Option Addr} {c2 : Nat} {A4 : Option Addr} {c4 : Nat} {A5 : Option Addr} {c5 : Nat} {w : World} (p_t : DTable) (p_s : DStmt) (h1 : RdS w (Iv 0 w.heap.size) (RF e_Str) 1 A1 p_t.Cols.length c1 p_t.Cols) (h2 : RdS w (Iv 0 w.heap.size) (RF e_Idx) 3 A2 p_t.Idxs.length c2 p_t.Idxs) (h4 : RdS w (Iv 0 w.heap.size) (RF e_Str) 1 A4 p_s.Act.Old.Vals.length c4 p_s.Act.Old.Vals) (h5 : RdS w (Iv 0 w.heap.size) (RF e_Str) 1 A5 p_s.Act.New.Vals.length c5 p_s.Act.New.Vals) (o3 : ok_Table p_t) (o6 : ok_Stmt p_s) : Cal Try.prog 65 #[.agg #[.string (bs (p_t.Name)), .slice A1 p_t.Cols.length c1, .slice A2 p_t.Idxs.length c2], .agg #[.int .i64 (p_s.Kind), .int .i64 (p_s.Act.Kind), .slice A4 p_s.Act.Old.Vals.length c4, .slice A5 p_s.Act.New.Vals.length c5, .string (bs (p_s.Idx)), .string (bs (p_s.Low)), .string (bs (p_s.High))]] w fun v w' => ∃ A_1 c_1 lo_1 hi_1, v = .tuple #[.slice A_1 (((i_StmtOps p_t p_s).1).length) c_1, .bool ((i_StmtOps p_t p_s).2)] ∧ OwnL w' lo_1 hi_1 163 4 (RF e_Op) A_1 (((i_StmtOps p_t p_s).1).length) c_1 ((i_StmtOps p_t p_s).1) ∧ (w.heap.size ≤ lo_1 ∧ lo_1 ≤ hi_1 ∧ hi_1 ≤ w'.heap.size) ∧ Ex w w' := by
 have hol7 : p_t.Name.length ≤ 1073741824 := o3.1
 have hol8 := o3.2.1.1
 have hol9 := o3.2.2.1
 have hol10 := o6.1.1.1
 have hol11 := o6.1.2.1
 have hol12 : p_s.Idx.length ≤ 1073741824 := o6.2.1
 have hol13 : p_s.Low.length ≤ 1073741824 := o6.2.2.1
 have hol14 : p_s.High.length ≤ 1073741824 := o6.2.2.2
 refine Cal.of (vs := [.agg #[.string (bs (p_t.Name)), .slice A1 p_t.Cols.length c1, .slice A2 p_t.Idxs.length c2], .agg #[.int .i64 (p_s.Kind), .int .i64 (p_s.Act.Kind), .slice A4 p_s.Act.Old.Vals.length c4, .slice A5 p_s.Act.New.Vals.length c5, .string (bs (p_s.Idx)), .string (bs (p_s.Low)), .string (bs (p_s.High))]]) Try.func65 rfl Try.ntmps65 rfl (CW.seq (CW.region (sd rfl (yl_box (cs := [.string (bs (p_t.Name)), .slice A1 p_t.Cols.length c1, .slice A2 p_t.Idxs.length c2]) rfl rfl rfl ?_))))
 intro b15 w16 hs17 hz18 hB19 hE20
 refine sd rfl (yl_box (cs := [.int .i64 (p_s.Kind), .int .i64 (p_s.Act.Kind), .slice A4 p_s.Act.Old.Vals.length c4, .slice A5 p_s.Act.New.Vals.length c5, .string (bs (p_s.Idx)), .string (bs (p_s.Low)), .string (bs (p_s.High))]) rfl rfl rfl ?_)
 intro b21 w22 hs23 hz24 hB25 hE26
 refine sd rfl (yl_assign rfl rfl (sd rfl (yl_assign rfl rfl (SeqR.done (tn (CW.seq (CW.seq (CW.region ?_))))))))
 have q27 := Box.ex hB19 hE26
 refine sd rfl (yl_loadN (cs := [.string (bs (p_t.Name)), .slice A1 p_t.Cols.length c1, .slice A2 p_t.Idxs.length c2]) Try.ty65 rfl rfl (q27.cells (n := 3) rfl) rfl (sd rfl (yl_loadN (cs := [.int .i64 (p_s.Kind), .int .i64 (p_s.Act.Kind), .slice A4 p_s.Act.Old.Vals.length c4, .slice A5 p_s.Act.New.Vals.length c5, .string (bs (p_s.Idx)), .string (bs (p_s.Low)), .string (bs (p_s.High))]) Try.ty103 rfl rfl (hB25.cells (n := 7) rfl) rfl ?_)))
 have q29 := RdS.ex good_Str (RdS.ex good_Str h1 hE20) hE26
 have q31 := RdS.ex good_Idx (RdS.ex good_Idx h2 hE20) hE26
 have q33 := RdS.ex good_Str (RdS.ex good_Str h4 hE20) hE26
 have q35 := RdS.ex good_Str (RdS.ex good_Str h5 hE20) hE26
 refine sd rfl (yl_call Try.en128 rfl (opvs_cons rfl (opvs_cons rfl opvs_nil)) (Cal.mono (c_i_GoodStmt p_t p_s (RdS.up q29 good_Str) (RdS.up q31 good_Idx) (RdS.up q33 good_Str) (RdS.up q35 good_Str) o3 o6) ?_))
 rintro v37 w36 ⟨rfl, hE38⟩
 have hE38z := Ex.size hE38
 refine sd rfl (yl_not rfl rfl (sd rfl (yl_move rfl rfl (bcase (i_GoodStmt p_t p_s) (fun hb39 => ?_) (fun hb39 => ?_)))))
 ·have hb39p := (fun h => stmt_lin (f2_i_GoodStmt h)) hb39
  refine sy rfl rfl (not_t hb39) (yl_fieldAddr Try.fd103_0 rfl rfl ?_)
  have q40 := Box.ex hB25 hE38
  refine sy rfl rfl (not_t hb39) (yl_load1 Try.ty3 rfl rfl ((q40.cell 0).trans rfl) (sy rfl rfl (not_t hb39) (yl_eql rfl rfl rfl (sd rfl (yl_pick_f rfl rfl (not_t hb39) rfl (SeqR.done (tn (bcase (decide (p_s.Kind = 3)) (fun hb41 => ?_) (fun hb41 => ?_)))))))))
  ·have hb41p := dec_t hb41
   refine CW.cond_t rfl hb41 (CW.seq (CW.region (sd rfl (yl_assign rfl rfl (sd rfl (yl_assign rfl rfl (SeqR.done (tn (CW.ret (tr ?_))))))))))
   refine rr rfl (.cons rfl (.cons rfl .nil)) ?_
   have hM42 : (i_StmtOps p_t p_s) = ((([] : List DOp), false)) := by simp only [i_StmtOps, hb39, hb41, cond_true, cond_false, loopE_done, loopE_ret]
   rw [hM42]
   exact ⟨none, 0, w36.heap.size, w36.heap.size, rfl, (OwnL.nil _ _ _ _ _ _), (by omega), (Ex.trans (Ex.trans (Ex.trans (Ex.refl w) hE20) hE26) hE38)⟩
  ·have hb41p := dec_f hb41
   refine CW.cond_f rfl hb41 (CW.skip (tn (CW.seq (CW.seq (CW.region (sd rfl (yl_fieldAddr Try.fd103_0 rfl rfl (sd rfl (yl_load1 Try.ty3 rfl rfl ((q40.cell 0).trans rfl) (sd rfl (yl_eql rfl rfl rfl ?_)))))))))))
   refine SeqR.done (tn (bcase (decide (p_s.Kind = 2)) (fun hb46 => ?_) (fun hb46 => ?_)))
   ·have hb46p := dec_t hb46
    refine CW.cond_t rfl hb46 (CW.seq (CW.region (sd rfl (yl_fieldAddr Try.fd65_0 rfl rfl (sd rfl (yl_load1 Try.ty9 rfl rfl (((Box.ex q27 hE38).cell 0).trans rfl) ?_))))))
    have hol48 : p_t.Name.length ≤ 1073741824 := o3.1
    refine sd rfl (yl_sadd (a := p_t.Name) (b := ([47] : Str)) rfl rfl rfl (by first | omega | (simp only [List.length_append, List.length_cons, List.length_nil, List.length_take, List.length_drop, toS_length]; omega)) (sd rfl (yl_fieldAddr Try.fd103_3 rfl rfl (sd rfl (yl_load1 Try.ty9 rfl rfl ((q40.cell 5).trans rfl) ?_)))))
    have hol49 : p_t.Name.length ≤ 1073741824 := o3.1
    have hol50 : p_s.Low.length ≤ 1073741824 := o6.2.2.1
    refine sd rfl (yl_sadd (a := (p_t.Name ++ ([47] : Str))) (b := p_s.Low) rfl rfl rfl (by first | omega | (simp only [List.length_append, List.length_cons, List.length_nil, List.length_take, List.length_drop, toS_length]; omega)) (sd rfl (yl_build (cs := [.int .i64 (1), .string (bs ((p_t.Name ++ ([47] : Str)) ++ p_s.Low)), .string (bs (([] : Str))), .int .i64 (0)]) rfl (opvs_cons rfl (opvs_cons rfl opvs_nil)) (by kernel_rfl) (sd rfl (yl_buildSlice (cs := [.int .i64 (1), .string (bs ((p_t.Name ++ ([47] : Str)) ++ p_s.Low)), .string (bs (([] : Str))), .int .i64 (0)]) Try.un60 Try.ty163 (by decide) rfl (opvs_cons rfl opvs_nil) (by kernel_rfl) ?_)))))
    intro b51 w52 hs53 hz54 hB55 hE56
    have hO57 : OwnL w52 b51 (b51 + 1) 163 4 (RF e_Op) (some ⟨b51, 0, none⟩) 1 1 ([(⟨1, (p_t.Name ++ ([47] : Str)) ++ p_s.Low, ([] : Str), 0⟩ : DOp)] : List DOp) := OwnL.of_box (S := fun _ => False) hB55 (Nat.le_refl _) (Nat.lt_succ_self _) (EncL.cons (c := [.int .i64 (1), .string (bs ((p_t.Name ++ ([47] : Str)) ++ p_s.Low)), .string (bs (([] : Str))), .int .i64 (0)]) rfl rfl EncL.nil) (Nat.le_of_ble_eq_true rfl) (fun h => h) (fun _ h => False.elim h)
    refine sd rfl (yl_assign rfl rfl (sd rfl (yl_assign rfl rfl (SeqR.done (tn (CW.ret (tr (rr rfl (.cons rfl (.cons rfl .nil)) ?_))))))))
    have hM58 : (i_StmtOps p_t p_s) = ((([(⟨1, (p_t.Name ++ ([47] : Str)) ++ p_s.Low, ([] : Str), 0⟩ : DOp)] : List DOp), true)) := by simp only [i_StmtOps, hb39, hb41, hb46, cond_true, cond_false, loopE_done, loopE_ret]
    have hfx59 := (hO57).1
    rw [hM58]
    exact ⟨(some ⟨b51, 0, none⟩), 1, b51, (b51 + 1), (by first | rfl | (simp only [List.length_replicate, List.length_set]; done) | (simp only [List.length_replicate, List.length_set]; rfl) | rw [hfx59]), (OwnL.fix hO57), (by omega), (Ex.trans (Ex.trans (Ex.trans (Ex.trans (Ex.refl w) hE20) hE26) hE38) hE56)⟩
   ·have hb46p := dec_f hb46
    refine CW.cond_f rfl hb46 (CW.skip (tn (CW.seq (CW.region (sd rfl (yl_loadN (cs := [.string (bs (p_t.Name)), .slice A1 p_t.Cols.length c1, .slice A2 p_t.Idxs.length c2]) Try.ty65 rfl rfl ((Box.ex q27 hE38).cells (n := 3) rfl) rfl (sd rfl (yl_fieldAddr Try.fd103_1 rfl rfl (sd rfl (yl_loadN (cs := [.int .i64 (p_s.Act.Kind), .slice A4 p_s.Act.Old.Vals.length c4, .slice A5 p_s.Act.New.Vals.length c5]) Try.ty93 rfl rfl (q40.cells (n := 3) rfl) rfl (sd rfl (yl_call Try.en126 rfl (opvs_cons rfl (opvs_cons rfl opvs_nil)) (Cal.mono (c_i_Table_opsFor p_t p_s.Act (RdS.up (RdS.ex good_Str q29 hE38) good_Str) (RdS.up (RdS.ex good_Idx q31 hE38) good_Idx) (RdS.up (RdS.ex good_Str q33 hE38) good_Str) (RdS.up (RdS.ex good_Str q35 hE38) good_Str) o3 o6.1 (f2_i_GoodStmt hb39).1 ((f2_i_GoodStmt hb39).2.2.2 (by omega) (by omega)) (kind_GoodStmt hb39 (by omega) (by omega))) ?_)))))))))))))
    rintro v71 w69 ⟨A70, c70, lo70, hi70, rfl, h70, hrn73, hE72⟩
    have hE72z := Ex.size hE72
    refine sd rfl (yl_assign rfl rfl (sd rfl (yl_assign rfl rfl (SeqR.done (tn (CW.ret (rr rfl (.cons rfl (.cons rfl .nil)) ?_)))))))
    have hM74 : (i_StmtOps p_t p_s) = (((i_Table_opsFor p_t p_s.Act), true)) := by simp only [i_StmtOps, hb39, hb41, hb46, cond_true, cond_false, loopE_done, loopE_ret]
    rw [hM74]
    exact ⟨A70, c70, lo70, hi70, rfl, h70, (by omega), (Ex.trans (Ex.trans (Ex.trans (Ex.trans (Ex.refl w) hE20) hE26) hE38) hE72)⟩
 ·refine sz rfl rfl (not_f hb39) (sz rfl rfl (not_f hb39) (sz rfl rfl (not_f hb39) (sd rfl (yl_pick_t rfl rfl (not_f hb39) rfl (SeqR.done (tn (CW.cond_t rfl rfl (CW.seq (CW.region ?_)))))))))
  refine sd rfl (yl_assign rfl rfl (sd rfl (yl_assign rfl rfl (SeqR.done (tn (CW.ret (tr (rr rfl (.cons rfl (.cons rfl .nil)) ?_))))))))
  have hM79 : (i_StmtOps p_t p_s) = ((([] : List DOp), false)) := by simp only [i_StmtOps, hb39, cond_true, cond_false, loopE_done, loopE_ret]
  rw [hM79]
  exact ⟨none, 0, w36.heap.size, w36.heap.size, rfl, (OwnL.nil _ _ _ _ _ _), (by omega), (Ex.trans (Ex.trans (Ex.trans (Ex.refl w) hE20) hE26) hE38)⟩
set_option maxRecDepth 100000 in
set_option maxHeartbeats 2000000 in
theorem c_l_eqRow {A1 : Option Addr} {c1 : Nat} {A2 : Option Addr} {c2 : Nat} {w : World} (p_a : DRow) (p_b : DRow) (h1 : RdS w (Iv 0 w.heap.size) (RF e_Str) 1 A1 p_a.Vals.length c1 p_a.Vals) (h2 : RdS w (Iv 0 w.heap.size) (RF e_Str) 1 A2 p_b.Vals.length c2 p_b.Vals) : Cal Try.prog 40 #[.agg #[.slice A1 p_a.Vals.length c1], .agg #[.slice A2 p_b.Vals.length c2]] w fun v w' => v = .bool ((l_eqRow p_a p_b)) ∧ Ex w w' := by
 refine Cal.of (vs := [.agg #[.slice A1 p_a.Vals.length c1], .agg #[.slice A2 p_b.Vals.length c2]]) Try.func40 rfl Try.ntmps40 rfl (CW.seq (CW.region (sd rfl (yl_box (cs := [.slice A1 p_a.Vals.length c1]) rfl rfl rfl ?_))))
 intro b3 w4 hs5 hz6 hB7 hE8
 refine sd rfl (yl_box (cs := [.slice A2 p_b.Vals.length c2]) rfl rfl rfl ?_)
 intro b9 w10 hs11 hz12 hB13 hE14
 refine sd rfl (yl_assign rfl rfl (SeqR.done (tn (CW.seq (CW.seq (CW.region (sd rfl (yl_fieldAddr Try.fd67_0 rfl rfl (sd rfl (yl_load1 Try.ty52 rfl rfl (((Box.ex hB7 hE14).cell 0).trans rfl) (sd rfl (yl_fieldAddr Try.fd67_0 rfl rfl ?_))))))))))))
 refine sd rfl (yl_load1 Try.ty52 rfl rfl ((hB13.cell 0).trans rfl) (sd rfl (yl_call Try.en51 rfl (opvs_cons rfl (opvs_cons rfl opvs_nil)) (Cal.mono (c_l_eqStringS p_a.Vals p_b.Vals (RdS.up (RdS.ex good_Str (RdS.ex good_Str h1 hE8) hE14) good_Str) (RdS.up (RdS.ex good_Str (RdS.ex good_Str h2 hE8) hE14) good_Str)) ?_))))
 rintro v21 w20 ⟨rfl, hE22⟩
 have hE22z := Ex.size hE22
 refine sd rfl (yl_not rfl rfl (SeqR.done (tn (bcase (l_eqStringS p_a.Vals p_b.Vals) (fun hb23 => ?_) (fun hb23 => ?_)))))
 ·refine CW.cond_f rfl (not_t hb23) (CW.skip (tn (CW.seq (CW.region (sd rfl (yl_assign rfl rfl (SeqR.done (tn (CW.ret ?_)))))))))
  refine rr rfl (.cons rfl .nil) ?_
  have hM24 : (l_eqRow p_a p_b) = (true) := by simp only [l_eqRow, hb23, cond_true, cond_false, loopE_done, loopE_ret]
  rw [hM24]
  exact ⟨rfl, (Ex.trans (Ex.trans (Ex.trans (Ex.refl w) hE8) hE14) hE22)⟩
 ·refine CW.cond_t rfl (not_f hb23) (CW.seq (CW.region (sd rfl (yl_assign rfl rfl (SeqR.done (tn (CW.ret (tr (rr rfl (.cons rfl .nil) ?_)))))))))
  have hM28 : (l_eqRow p_a p_b) = (false) := by simp only [l_eqRow, hb23, cond_true, cond_false, loopE_done, loopE_ret]
  rw [hM28]
  exact ⟨rfl, (Ex.trans (Ex.trans (Ex.trans (Ex.refl w) hE8) hE14) hE22)⟩
set_option maxRecDepth 100000 in
set_option maxHeartbeats 2000000 in
theorem c_l_eqRowAct {A1 : Option Addr} {c1 : Nat} {A2 : Option Addr} {c2 : Nat} {A3 : Option Addr} {c3 : Nat} {A4 : Option Addr} {c4 : Nat} {w : World} (p_a : DRowAct) (p_b : DRowAct) (h1 : RdS w (Iv 0 w.heap.size) (RF e_Str) 1 A1 p_a.Old.Vals.length c1 p_a.Old.Vals) (h2 : RdS w (Iv 0 w.heap.size) (RF e_Str) 1 A2 p_a.New.Vals.length c2 p_a.New.Vals) (h3 : RdS w (Iv 0 w.heap.size) (RF e_Str) 1 A3 p_b.Old.Vals.length c3 p_b.Old.Vals) (h4 : RdS w (Iv 0 w.heap.size) (RF e_Str) 1 A4 p_b.New.Vals.length c4 p_b.New.Vals) : Cal Try.prog 60 #[.agg #[.int .i64 (p_a.Kind), .slice A1 p_a.Old.Vals.length c1, .slice A2 p_a.New.Vals.length c2], .agg #[.int .i64 (p_b.Kind), .slice A3 p_b.Old.Vals.length c3, .slice A4 p_b.New.Vals.length c4]] w fun v w' => v = .bool ((l_eqRowAct p_a p_b)) ∧ Ex w w' := by
 refine Cal.of (vs := [.agg #[.int .i64 (p_a.Kind), .slice A1 p_a.Old.Vals.length c1, .slice A2 p_a.New.Vals.length c2], .agg #[.int .i64 (p_b.Kind), .slice A3 p_b.Old.Vals.length c3, .slice A4 p_b.New.Vals.length c4]]) Try.func60 rfl Try.ntmps60 rfl (CW.seq (CW.region (sd rfl (yl_box (cs := [.int .i64 (p_a.Kind), .slice A1 p_a.Old.Vals.length c1, .slice A2 p_a.New.Vals.length c2]) rfl rfl rfl ?_))))
 intro b5 w6 hs7 hz8 hB9 hE10
 refine sd rfl (yl_box (cs := [.int .i64 (p_b.Kind), .slice A3 p_b.Old.Vals.length c3, .slice A4 p_b.New.Vals.length c4]) rfl rfl rfl ?_)
 intro b11 w12 hs13 hz14 hB15 hE16
 refine sd rfl (yl_assign rfl rfl (SeqR.done (tn (CW.seq (CW.seq (CW.region (sd rfl (yl_fieldAddr Try.fd93_0 rfl rfl ?_))))))))
 have q17 := Box.ex hB9 hE16
 refine sd rfl (yl_load1 Try.ty3 rfl rfl ((q17.cell 0).trans rfl) (sd rfl (yl_fieldAddr Try.fd93_0 rfl rfl (sd rfl (yl_load1 Try.ty3 rfl rfl ((hB15.cell 0).trans rfl) (sd rfl (yl_neq rfl rfl rfl (SeqR.done (tn (bcase (decide (p_a.Kind = p_b.Kind)) (fun hb18 => ?_) (fun hb18 => ?_)))))))))))
 ·have hb18p := dec_t hb18
  refine CW.cond_f rfl (not_t hb18) (CW.skip (tn (CW.seq (CW.seq (CW.region (sd rfl (yl_fieldAddr Try.fd93_1 rfl rfl (sd rfl (yl_loadN (cs := [.slice A1 p_a.Old.Vals.length c1]) Try.ty67 rfl rfl (q17.cells (n := 1) rfl) rfl (sd rfl (yl_fieldAddr Try.fd93_1 rfl rfl ?_)))))))))))
  refine sd rfl (yl_loadN (cs := [.slice A3 p_b.Old.Vals.length c3]) Try.ty67 rfl rfl (hB15.cells (n := 1) rfl) rfl (sd rfl (yl_call Try.en40 rfl (opvs_cons rfl (opvs_cons rfl opvs_nil)) (Cal.mono (c_l_eqRow p_a.Old p_b.Old (RdS.up (RdS.ex good_Str (RdS.ex good_Str h1 hE10) hE16) good_Str) (RdS.up (RdS.ex good_Str (RdS.ex good_Str h3 hE10) hE16) good_Str)) ?_))))
  rintro v24 w23 ⟨rfl, hE25⟩
  have hE25z := Ex.size hE25
  refine sd rfl (yl_not rfl rfl (SeqR.done (tn (bcase (l_eqRow p_a.Old p_b.Old) (fun hb26 => ?_) (fun hb26 => ?_)))))
  ·refine CW.cond_f rfl (not_t hb26) (CW.skip (tn (CW.seq (CW.seq (CW.region (sd rfl (yl_fieldAddr Try.fd93_2 rfl rfl (sd rfl (yl_loadN (cs := [.slice A2 p_a.New.Vals.length c2]) Try.ty67 rfl rfl ((Box.ex q17 hE25).cells (n := 1) rfl) rfl (sd rfl (yl_fieldAddr Try.fd93_2 rfl rfl ?_)))))))))))
   refine sd rfl (yl_loadN (cs := [.slice A4 p_b.New.Vals.length c4]) Try.ty67 rfl rfl ((Box.ex hB15 hE25).cells (n := 1) rfl) rfl (sd rfl (yl_call Try.en40 rfl (opvs_cons rfl (opvs_cons rfl opvs_nil)) (Cal.mono (c_l_eqRow p_a.New p_b.New (RdS.up (RdS.ex good_Str (RdS.ex good_Str (RdS.ex good_Str h2 hE10) hE16) hE25) good_Str) (RdS.up (RdS.ex good_Str (RdS.ex good_Str (RdS.ex good_Str h4 hE10) hE16) hE25) good_Str)) ?_))))
   rintro v36 w35 ⟨rfl, hE37⟩
   have hE37z := Ex.size hE37
   refine sd rfl (yl_not rfl rfl (SeqR.done (tn (bcase (l_eqRow p_a.New p_b.New) (fun hb38 => ?_) (fun hb38 => ?_)))))
   ·refine CW.cond_f rfl (not_t hb38) (CW.skip (tn (CW.seq (CW.region (sd rfl (yl_assign rfl rfl (SeqR.done (tn (CW.ret ?_)))))))))
    refine rr rfl (.cons rfl .nil) ?_
    have hM39 : (l_eqRowAct p_a p_b) = (true) := by simp only [l_eqRowAct, hb18, hb26, hb38, cond_true, cond_false, loopE_done, loopE_ret]
    rw [hM39]
    exact ⟨rfl, (Ex.trans (Ex.trans (Ex.trans (Ex.trans (Ex.refl w) hE10) hE16) hE25) hE37)⟩
   ·refine CW.cond_t rfl (not_f hb38) (CW.seq (CW.region (sd rfl (yl_assign rfl rfl (SeqR.done (tn (CW.ret (tr (rr rfl (.cons rfl .nil) ?_)))))))))
    have hM44 : (l_eqRowAct p_a p_b) = (false) := by simp only [l_eqRowAct, hb18, hb26, hb38, cond_true, cond_false, loopE_done, loopE_ret]
    rw [hM44]
    exact ⟨rfl, (Ex.trans (Ex.trans (Ex.trans (Ex.trans (Ex.refl w) hE10) hE16) hE25) hE37)⟩
  ·refine CW.cond_t rfl (not_f hb26) (CW.seq (CW.region (sd rfl (yl_assign rfl rfl (SeqR.done (tn (CW.ret (tr (rr rfl (.cons rfl .nil) ?_)))))))))
   have hM49 : (l_eqRowAct p_a p_b) = (false) := by simp only [l_eqRowAct, hb18, hb26, cond_true, cond_false, loopE_done, loopE_ret]
   rw [hM49]
   exact ⟨rfl, (Ex.trans (Ex.trans (Ex.trans (Ex.refl w) hE10) hE16) hE25)⟩
 ·have hb18p := dec_f hb18
  refine CW.cond_t rfl (not_f hb18) (CW.seq (CW.region (sd rfl (yl_assign rfl rfl (SeqR.done (tn (CW.ret (tr (rr rfl (.cons rfl .nil) ?_)))))))))
  have hM53 : (l_eqRowAct p_a p_b) = (false) := by simp only [l_eqRowAct, hb18, cond_true, cond_false, loopE_done, loopE_ret]
  rw [hM53]
  exact ⟨rfl, (Ex.trans (Ex.trans (Ex.refl w) hE10) hE16)⟩
set_option maxRecDepth 100000 in
set_option maxHeartbeats 2000000 in
theorem c_l_eqStmt {A1 : Option Addr} {c1 : Nat} {A2 : Option Addr} {c2 : Nat} {A3 : Option Addr} {c3 : Nat} {A4 : Option Addr} {c4 : Nat} {w : World} (p_a : DStmt) (p_b : DStmt) (h1 : RdS w (Iv 0 w.heap.size) (RF e_Str) 1 A1 p_a.Act.Old.Vals.length c1 p_a.Act.Old.Vals) (h2 : RdS w (Iv 0 w.heap.size) (RF e_Str) 1 A2 p_a.Act.New.Vals.length c2 p_a.Act.New.Vals) (h3 : RdS w (Iv 0 w.heap.size) (RF e_Str) 1 A3 p_b.Act.Old.Vals.length c3 p_b.Act.Old.Vals) (h4 : RdS w (Iv 0 w.heap.size) (RF e_Str) 1 A4 p_b.Act.New.Vals.length c4 p_b.Act.New.Vals) : Cal Try.prog 66 #[.agg #[.int .i64 (p_a.Kind), .int .i64 (p_a.Act.Kind), .slice A1 p_a.Act.Old.Vals.length c1, .slice A2 p_a.Act.New.Vals.length c2, .string (bs (p_a.Idx)), .string (bs (p_a.Low)), .string (bs (p_a.High))], .agg #[.int .i64 (p_b.Kind), .int .i64 (p_b.Act.Kind), .slice A3 p_b.Act.Old.Vals.length c3, .slice A4 p_b.Act.New.Vals.length c4, .string (bs (p_b.Idx)), .string (bs (p_b.Low)), .string (bs (p_b.High))]] w fun v w' => v = .bool ((l_eqStmt p_a p_b)) ∧ Ex w w' := by
 refine Cal.of (vs := [.agg #[.int .i64 (p_a.Kind), .int .i64 (p_a.Act.Kind), .slice A1 p_a.Act.Old.Vals.length c1, .slice A2 p_a.Act.New.Vals.length c2, .string (bs (p_a.Idx)), .string (bs (p_a.Low)), .string (bs (p_a.High))], .agg #[.int .i64 (p_b.Kind), .int .i64 (p_b.Act.Kind), .slice A3 p_b.Act.Old.Vals.length c3, .slice A4 p_b.Act.New.Vals.length c4, .string (bs (p_b.Idx)), .string (bs (p_b.Low)), .string (bs (p_b.High))]]) Try.func66 rfl Try.ntmps66 rfl (CW.seq (CW.region (sd rfl (yl_box (cs := [.int .i64 (p_a.Kind), .int .i64 (p_a.Act.Kind), .slice A1 p_a.Act.Old.Vals.length c1, .slice A2 p_a.Act.New.Vals.length c2, .string (bs (p_a.Idx)), .string (bs (p_a.Low)), .string (bs (p_a.High))]) rfl rfl rfl ?_))))
 intro b5 w6 hs7 hz8 hB9 hE10
 refine sd rfl (yl_box (cs := [.int .i64 (p_b.Kind), .int .i64 (p_b.Act.Kind), .slice A3 p_b.Act.Old.Vals.length c3, .slice A4 p_b.Act.New.Vals.length c4, .string (bs (p_b.Idx)), .string (bs (p_b.Low)), .string (bs (p_b.High))]) rfl rfl rfl ?_)
 intro b11 w12 hs13 hz14 hB15 hE16
 refine sd rfl (yl_assign rfl rfl (SeqR.done (tn (CW.seq (CW.seq (CW.region (sd rfl (yl_fieldAddr Try.fd103_0 rfl rfl ?_))))))))
 have q17 := Box.ex hB9 hE16
 refine sd rfl (yl_load1 Try.ty3 rfl rfl ((q17.cell 0).trans rfl) (sd rfl (yl_fieldAddr Try.fd103_0 rfl rfl (sd rfl (yl_load1 Try.ty3 rfl rfl ((hB15.cell 0).trans rfl) (sd rfl (yl_neq rfl rfl rfl (SeqR.done (tn (bcase (decide (p_a.Kind = p_b.Kind)) (fun hb18 => ?_) (fun hb18 => ?_)))))))))))
 ·have hb18p := dec_t hb18
  refine CW.cond_f rfl (not_t hb18) (CW.skip (tn (CW.seq (CW.seq (CW.region (sd rfl (yl_fieldAddr Try.fd103_1 rfl rfl (sd rfl (yl_loadN (cs := [.int .i64 (p_a.Act.Kind), .slice A1 p_a.Act.Old.Vals.length c1, .slice A2 p_a.Act.New.Vals.length c2]) Try.ty93 rfl rfl (q17.cells (n := 3) rfl) rfl (sd rfl (yl_fieldAddr Try.fd103_1 rfl rfl ?_)))))))))))
  refine sd rfl (yl_loadN (cs := [.int .i64 (p_b.Act.Kind), .slice A3 p_b.Act.Old.Vals.length c3, .slice A4 p_b.Act.New.Vals.length c4]) Try.ty93 rfl rfl (hB15.cells (n := 3) rfl) rfl (sd rfl (yl_call Try.en60 rfl (opvs_cons rfl (opvs_cons rfl opvs_nil)) (Cal.mono (c_l_eqRowAct p_a.Act p_b.Act (RdS.up (RdS.ex good_Str (RdS.ex good_Str h1 hE10) hE16) good_Str) (RdS.up (RdS.ex good_Str (RdS.ex good_Str h2 hE10) hE16) good_Str) (RdS.up (RdS.ex good_Str (RdS.ex good_Str h3 hE10) hE16) good_Str) (RdS.up (RdS.ex good_Str (RdS.ex good_Str h4 hE10) hE16) good_Str)) ?_))))
  rintro v28 w27 ⟨rfl, hE29⟩
  have hE29z := Ex.size hE29
  refine sd rfl (yl_not rfl rfl (SeqR.done (tn (bcase (l_eqRowAct p_a.Act p_b.Act) (fun hb30 => ?_) (fun hb30 => ?_)))))
  ·refine CW.cond_f rfl (not_t hb30) (CW.skip (tn (CW.seq (CW.seq (CW.region (sd rfl (yl_fieldAddr Try.fd103_2 rfl rfl ?_)))))))
   have q31 := Box.ex q17 hE29
   refine sd rfl (yl_load1 Try.ty9 rfl rfl ((q31.cell 4).trans rfl) (sd rfl (yl_fieldAddr Try.fd103_2 rfl rfl ?_)))
   have q32 := Box.ex hB15 hE29
   refine sd rfl (yl_load1 Try.ty9 rfl rfl ((q32.cell 4).trans rfl) (sd rfl (yl_sneq (a := p_a.Idx) (b := p_b.Idx) rfl rfl rfl (SeqR.done (tn (bcase (p_a.Idx == p_b.Idx) (fun hb33 => ?_) (fun hb33 => ?_)))))))
   ·refine CW.cond_f rfl (not_t hb33) (CW.skip (tn (CW.seq (CW.seq (CW.region (sd rfl (yl_fieldAddr Try.fd103_3 rfl rfl (sd rfl (yl_load1 Try.ty9 rfl rfl ((q31.cell 5).trans rfl) (sd rfl (yl_fieldAddr Try.fd103_3 rfl rfl ?_)))))))))))
    refine sd rfl (yl_load1 Try.ty9 rfl rfl ((q32.cell 5).trans rfl) (sd rfl (yl_sneq (a := p_a.Low) (b := p_b.Low) rfl rfl rfl (SeqR.done (tn (bcase (p_a.Low == p_b.Low) (fun hb34 => ?_) (fun hb34 => ?_)))))))
    ·refine CW.cond_f rfl (not_t hb34) (CW.skip (tn (CW.seq (CW.seq (CW.region (sd rfl (yl_fieldAddr Try.fd103_4 rfl rfl (sd rfl (yl_load1 Try.ty9 rfl rfl ((q31.cell 6).trans rfl) (sd rfl (yl_fieldAddr Try.fd103_4 rfl rfl ?_)))))))))))
     refine sd rfl (yl_load1 Try.ty9 rfl rfl ((q32.cell 6).trans rfl) (sd rfl (yl_sneq (a := p_a.High) (b := p_b.High) rfl rfl rfl (SeqR.done (tn (bcase (p_a.High == p_b.High) (fun hb35 => ?_) (fun hb35 => ?_)))))))
     ·refine CW.cond_f rfl (not_t hb35) (CW.skip (tn (CW.seq (CW.region (sd rfl (yl_assign rfl rfl (SeqR.done (tn (CW.ret ?_)))))))))
      refine rr rfl (.cons rfl .nil) ?_
      have hM36 : (l_eqStmt p_a p_b) = (true) := by simp only [l_eqStmt, hb18, hb30, hb33, hb34, hb35, cond_true, cond_false, loopE_done, loopE_ret]
      rw [hM36]
      exact ⟨rfl, (Ex.trans (Ex.trans (Ex.trans (Ex.refl w) hE10) hE16) hE29)⟩
     ·refine CW.cond_t rfl (not_f hb35) (CW.seq (CW.region (sd rfl (yl_assign rfl rfl (SeqR.done (tn (CW.ret (tr (rr rfl (.cons rfl .nil) ?_)))))))))
      have hM40 : (l_eqStmt p_a p_b) = (false) := by simp only [l_eqStmt, hb18, hb30, hb33, hb34, hb35, cond_true, cond_false, loopE_done, loopE_ret]
      rw [hM40]
      exact ⟨rfl, (Ex.trans (Ex.trans (Ex.trans (Ex.refl w) hE10) hE16) hE29)⟩
    ·refine CW.cond_t rfl (not_f hb34) (CW.seq (CW.region (sd rfl (yl_assign rfl rfl (SeqR.done (tn (CW.ret (tr (rr rfl (.cons rfl .nil) ?_)))))))))
     have hM44 : (l_eqStmt p_a p_b) = (false) := by simp only [l_eqStmt, hb18, hb30, hb33, hb34, cond_true, cond_false, loopE_done, loopE_ret]
     rw [hM44]
     exact ⟨rfl, (Ex.trans (Ex.trans (Ex.trans (Ex.refl w) hE10) hE16) hE29)⟩
   ·refine CW.cond_t rfl (not_f hb33) (CW.seq (CW.region (sd rfl (yl_assign rfl rfl (SeqR.done (tn (CW.ret (tr (rr rfl (.cons rfl .nil) ?_)))))))))
    have hM48 : (l_eqStmt p_a p_b) = (false) := by simp only [l_eqStmt, hb18, hb30, hb33, cond_true, cond_false, loopE_done, loopE_ret]
    rw [hM48]
    exact ⟨rfl, (Ex.trans (Ex.trans (Ex.trans (Ex.refl w) hE10) hE16) hE29)⟩
  ·refine CW.cond_t rfl (not_f hb30) (CW.seq (CW.region (sd rfl (yl_assign rfl rfl (SeqR.done (tn (CW.ret (tr (rr rfl (.cons rfl .nil) ?_)))))))))
   have hM52 : (l_eqStmt p_a p_b) = (false) := by simp only [l_eqStmt, hb18, hb30, cond_true, cond_false, loopE_done, loopE_ret]
   rw [hM52]
   exact ⟨rfl, (Ex.trans (Ex.trans (Ex.trans (Ex.refl w) hE10) hE16) hE29)⟩
 ·have hb18p := dec_f hb18
  refine CW.cond_t rfl (not_f hb18) (CW.seq (CW.region (sd rfl (yl_assign rfl rfl (SeqR.done (tn (CW.ret (tr (rr rfl (.cons rfl .nil) ?_)))))))))
  have hM56 : (l_eqStmt p_a p_b) = (false) := by simp only [l_eqStmt, hb18, cond_true, cond_false, loopE_done, loopE_ret]
  rw [hM56]
  exact ⟨rfl, (Ex.trans (Ex.trans (Ex.refl w) hE10) hE16)⟩
set_option maxRecDepth 100000 in
set_option maxHeartbeats 2000000 in
theorem c_l_markRow {A1 : Option Addr} {c1 : Nat} {lo1 hi1 : Nat} {w : World} (p_a : DRow) (p_k : Int) (h1 : OwnL w lo1 hi1 9 1 (RF e_Str) A1 p_a.Vals.length c1 p_a.Vals) (hrn2 : (0 ≤ lo1 ∧ lo1 ≤ hi1 ∧ hi1 ≤ w.heap.size)) (pre0 : p_k ≤ 9223372036854775807) : Cal Try.prog 42 #[.agg #[.slice A1 p_a.Vals.length c1], .int .i64 (p_k)] w fun v w' => v = .int .i64 ((l_markRow p_a p_k).1) ∧ OwnL w' lo1 hi1 9 1 (RF e_Str) A1 p_a.Vals.length c1 ((l_markRow p_a p_k).2.Vals) ∧ Mut [(lo1, hi1)] w w' := by
 refine Cal.of (vs := [.agg #[.slice A1 p_a.Vals.length c1], .int .i64 (p_k)]) Try.func42 rfl Try.ntmps42 rfl (CW.seq (CW.region (sd rfl (yl_box (cs := [.slice A1 p_a.Vals.length c1]) rfl rfl rfl ?_))))
 intro b3 w4 hs5 hz6 hB7 hE8
 refine sd rfl (yl_assign rfl rfl (SeqR.done (tn (CW.seq (CW.region (sd rfl (yl_fieldAddr Try.fd67_0 rfl rfl (sd rfl (yl_load1 Try.ty52 rfl rfl ((hB7.cell 0).trans rfl) (sd rfl (yl_move rfl rfl (sd rfl (yl_call Try.en54 rfl (opvs_cons rfl (opvs_cons rfl opvs_nil)) (Cal.mono (c_l_markStringS p_a.Vals p_k (OwnL.ex good_Str h1 hE8) (by omega) (by first | omega | assumption | (simp only [IntKind.wrap_i64] at *; omega))) ?_))))))))))))))
 rintro v11 w10 ⟨rfl, h13, hm12⟩
 have hm12z := Mut.size hm12
 have hrf14 := rf_markStringS p_a.Vals p_k (by first | omega | assumption | (simp only [IntKind.wrap_i64] at *; omega))
 refine sd rfl (yl_assign rfl rfl (SeqR.done (tn (CW.seq (CW.region (sd rfl (yl_move rfl rfl (sd rfl (yl_assign rfl rfl (SeqR.done (tn ?_)))))))))))
 refine CW.ret (rr rfl (.cons rfl .nil) ?_)
 have hM15 : (l_markRow p_a p_k) = (((l_markStringS p_a.Vals p_k).1, (⟨(l_markStringS p_a.Vals p_k).2⟩ : DRow))) := by simp only [l_markRow, cond_true, cond_false, loopE_done, loopE_ret]
 rw [hM15]
 exact ⟨rfl, h13, (Mut.mut (Mut.ex (Mut.refl (l := [(lo1, hi1)]) w) hE8) hm12 (fun k hk => by simp only [InR, or_false] at hk ⊢; omega))⟩
set_option maxRecDepth 100000 in
set_option maxHeartbeats 2000000 in
theorem c_l_markRowAct {A1 : Option Addr} {c1 : Nat} {lo1 hi1 : Nat} {A2 : Option Addr} {c2 : Nat} {lo2 hi2 : Nat} {w : World} (p_a : DRowAct) (p_k : Int) (h1 : OwnL w lo1 hi1 9 1 (RF e_Str) A1 p_a.Old.Vals.length c1 p_a.Old.Vals) (h2 : OwnL w lo2 hi2 9 1 (RF e_Str) A2 p_a.New.Vals.length c2 p_a.New.Vals) (hrn3 : (0 ≤ lo1 ∧ lo1 ≤ hi1 ∧ hi1 ≤ w.heap.size)) (hrn4 : (0 ≤ lo2 ∧ lo2 ≤ hi2 ∧ hi2 ≤ w.heap.size)) (hrn5 : (hi1 ≤ lo2 ∨ hi2 ≤ lo1)) (pre0 : p_k ≤ 9223372036854775807) : Cal Try.prog 61 #[.agg #[.int .i64 (p_a.Kind), .slice A1 p_a.Old.Vals.length c1, .slice A2 p_a.New.Vals.length c2], .int .i64 (p_k)] w fun v w' => v = .int .i64 ((l_markRowAct p_a p_k).1) ∧ OwnL w' lo1 hi1 9 1 (RF e_Str) A1 p_a.Old.Vals.length c1 ((l_markRowAct p_a p_k).2.Old.Vals) ∧ OwnL w' lo2 hi2 9 1 (RF e_Str) A2 p_a.New.Vals.length c2 ((l_markRowAct p_a p_k).2.New.Vals) ∧ Mut [(lo1, hi1), (lo2, hi2)] w w' := by
 refine Cal.of (vs := [.agg #[.int .i64 (p_a.Kind), .slice A1 p_a.Old.Vals.length c1, .slice A2 p_a.New.Vals.length c2], .int .i64 (p_k)]) Try.func61 rfl Try.ntmps61 rfl (CW.seq (CW.region (sd rfl (yl_box (cs := [.int .i64 (p_a.Kind), .slice A1 p_a.Old.Vals.length c1, .slice A2 p_a.New.Vals.length c2]) rfl rfl rfl ?_))))
 intro b6 w7 hs8 hz9 hB10 hE11
 refine sd rfl (yl_assign rfl rfl (SeqR.done (tn (CW.seq (CW.region (sd rfl (yl_fieldAddr Try.fd93_1 rfl rfl (sd rfl (yl_loadN (cs := [.slice A1 p_a.Old.Vals.length c1]) Try.ty67 rfl rfl (hB10.cells (n := 1) rfl) rfl (sd rfl (yl_move rfl rfl (sd rfl (yl_call Try.en42 rfl (opvs_cons rfl (opvs_cons rfl opvs_nil)) (Cal.mono (c_l_markRow p_a.Old p_k (OwnL.ex good_Str h1 hE11) (by omega) (by first | omega | assumption | (simp only [IntKind.wrap_i64] at *; omega))) ?_))))))))))))))
 rintro v14 w13 ⟨rfl, h16, hm15⟩
 have hm15z := Mut.size hm15
 have hrf17 := rf_markRow p_a.Old p_k (by first | omega | assumption | (simp only [IntKind.wrap_i64] at *; omega))
 refine sd rfl (yl_assign rfl rfl (SeqR.done (tn (CW.seq (CW.region (sd rfl (yl_fieldAddr Try.fd93_2 rfl rfl (sd rfl (yl_loadN (cs := [.slice A2 p_a.New.Vals.length c2]) Try.ty67 rfl rfl ((Box.mut hB10 hm15 (fun k hk => by simp only [InR, or_false] at hk; omega)).cells (n := 1) rfl) rfl (sd rfl (yl_move rfl rfl (sd rfl (yl_call Try.en42 rfl (opvs_cons rfl (opvs_cons rfl opvs_nil)) (Cal.mono (c_l_markRow p_a.New ((l_markRow p_a.Old p_k).1) (OwnL.mut good_Str (OwnL.ex good_Str h2 hE11) hm15 (fun k hk => by simp only [InR, or_false] at hk; omega)) (by omega) (by first | omega | assumption | (simp only [IntKind.wrap_i64] at *; omega))) ?_))))))))))))))
 rintro v22 w21 ⟨rfl, h24, hm23⟩
 have hm23z := Mut.size hm23
 have hrf25 := rf_markRow p_a.New ((l_markRow p_a.Old p_k).1) (by first | omega | assumption | (simp only [IntKind.wrap_i64] at *; omega))
 refine sd rfl (yl_assign rfl rfl (SeqR.done (tn (CW.seq (CW.region (sd rfl (yl_move rfl rfl (sd rfl (yl_assign rfl rfl (SeqR.done (tn ?_)))))))))))
 refine CW.ret (rr rfl (.cons rfl .nil) ?_)
 have hM26 : (l_markRowAct p_a p_k) = (((l_markRow p_a.New ((l_markRow p_a.Old p_k).1)).1, (⟨p_a.Kind, (l_markRow p_a.Old p_k).2, (l_markRow p_a.New ((l_markRow p_a.Old p_k).1)).2⟩ : DRowAct))) := by simp only [l_markRowAct, cond_true, cond_false, loopE_done, loopE_ret]
 rw [hM26]
 exact ⟨rfl, (OwnL.mut good_Str h16 hm23 (fun k hk => by simp only [InR, or_false] at hk; omega)), h24, (Mut.mut (Mut.mut (Mut.ex (Mut.refl (l := [(lo1, hi1), (lo2, hi2)]) w) hE11) hm15 (fun k hk => by simp only [InR, or_false] at hk ⊢; omega)) hm23 (fun k hk => by simp only [InR, or_false] at hk ⊢; omega))⟩
set_option maxRecDepth 100000 in
set_option maxHeartbeats 2000000 in
theorem c_l_markStmt {A1 : Option Addr} {c1 : Nat} {lo1 hi1 : Nat} {A2 : Option Addr} {c2 : Nat} {lo2 hi2 : Nat} {w : World} (p_a : DStmt) (p_k : Int) (h1 : OwnL w lo1 hi1 9 1 (RF e_Str) A1 p_a.Act.Old.Vals.length c1 p_a.Act.Old.Vals) (h2 : OwnL w lo2 hi2 9 1 (RF e_Str) A2 p_a.Act.New.Vals.length c2 p_a.Act.New.Vals) (hrn3 : (0 ≤ lo1 ∧ lo1 ≤ hi1 ∧ hi1 ≤ w.heap.size)) (hrn4 : (0 ≤ lo2 ∧ lo2 ≤ hi2 ∧ hi2 ≤ w.heap.size)) (hrn5 : (hi1 ≤ lo2 ∨ hi2 ≤ lo1)) (pre0 : p_k ≤ 9223372036854775807) : Cal Try.prog 67 #[.agg #[.int .i64 (p_a.Kind), .int .i64 (p_a.Act.Kind), .slice A1 p_a.Act.Old.Vals.length c1, .slice A2 p_a.Act.New.Vals.length c2, .string (bs (p_a.Idx)), .string (bs (p_a.Low)), .string (bs (p_a.High))], .int .i64 (p_k)] w fun v w' => v = .int .i64 ((l_markStmt p_a p_k).1) ∧ OwnL w' lo1 hi1 9 1 (RF e_Str) A1 p_a.Act.Old.Vals.length c1 ((l_markStmt p_a p_k).2.Act.Old.Vals) ∧ OwnL w' lo2 hi2 9 1 (RF e_Str) A2 p_a.Act.New.Vals.length c2 ((l_markStmt p_a p_k).2.Act.New.Vals) ∧ Mut [(lo1, hi1), (lo2, hi2)] w w' := by
 refine Cal.of (vs := [.agg #[.int .i64 (p_a.Kind), .int .i64 (p_a.Act.Kind), .slice A1 p_a.Act.Old.Vals.length c1, .slice A2 p_a.Act.New.Vals.length c2, .string (bs (p_a.Idx)), .string (bs (p_a.Low)), .string (bs (p_a.High))], .int .i64 (p_k)]) Try.func67 rfl Try.ntmps67 rfl (CW.seq (CW.region (sd rfl (yl_box (cs := [.int .i64 (p_a.Kind), .int .i64 (p_a.Act.Kind), .slice A1 p_a.Act.Old.Vals.length c1, .slice A2 p_a.Act.New.Vals.length c2, .string (bs (p_a.Idx)), .string (bs (p_a.Low)), .string (bs (p_a.High))]) rfl rfl rfl ?_))))
 intro b6 w7 hs8 hz9 hB10 hE11
 refine sd rfl (yl_assign rfl rfl (SeqR.done (tn (CW.seq (CW.region (sd rfl (yl_fieldAddr Try.fd103_1 rfl rfl (sd rfl (yl_loadN (cs := [.int .i64 (p_a.Act.Kind), .slice A1 p_a.Act.Old.Vals.length c1, .slice A2 p_a.Act.New.Vals.length c2]) Try.ty93 rfl rfl (hB10.cells (n := 3) rfl) rfl (sd rfl (yl_move rfl rfl (sd rfl (yl_call Try.en61 rfl (opvs_cons rfl (opvs_cons rfl opvs_nil)) (Cal.mono (c_l_markRowAct p_a.Act p_k (OwnL.ex good_Str h1 hE11) (OwnL.ex good_Str h2 hE11) (by omega) (by omega) (by omega) (by first | omega | assumption | (simp only [IntKind.wrap_i64] at *; omega))) ?_))))))))))))))
 rintro v15 w14 ⟨rfl, h17, h18, hm16⟩
 have hm16z := Mut.size hm16
 have hrf19 := rf_markRowAct p_a.Act p_k (by first | omega | assumption | (simp only [IntKind.wrap_i64] at *; omega))
 refine sd rfl (yl_assign rfl rfl (SeqR.done (tn (CW.seq (CW.region (sd rfl (yl_move rfl rfl (sd rfl (yl_assign rfl rfl (SeqR.done (tn ?_)))))))))))
 refine CW.ret (rr rfl (.cons rfl .nil) ?_)
 have hM20 : (l_markStmt p_a p_k) = (((l_markRowAct p_a.Act p_k).1, (⟨p_a.Kind, (⟨p_a.Act.Kind, (l_markRowAct p_a.Act p_k).2.Old, (l_markRowAct p_a.Act p_k).2.New⟩ : DRowAct), p_a.Idx, p_a.Low, p_a.High⟩ : DStmt))) := by simp only [l_markStmt, cond_true, cond_false, loopE_done, loopE_ret]
 rw [hM20]
 exact ⟨rfl, h17, h18, (Mut.mut (Mut.ex (Mut.refl (l := [(lo1, hi1), (lo2, hi2)]) w) hE11) hm16 (fun k hk => by simp only [InR, or_false] at hk ⊢; omega))⟩
set_option maxRecDepth 100000 in
set_option maxHeartbeats 2000000 in
theorem c_l_FnExactStmtOps {A1 : Option Addr} {c1 : Nat} {A2 : Option Addr} {c2 : Nat} {A3 : Option Addr} {c3 : Nat} {A4 : Option Addr} {c4 : Nat} {w : World} (p_0 : DTable) (p_1 : DStmt) (h1 : RdS w (Iv 0 w.heap.size) (RF e_Str) 1 A1 p_0.Cols.length c1 p_0.Cols) (h2 : RdS w (Iv 0 w.heap.size) (RF e_Idx) 3 A2 p_0.Idxs.length c2 p_0.Idxs) (h3 : RdS w (Iv 0 w.heap.size) (RF e_Str) 1 A3 p_1.Act.Old.Vals.length c3 p_1.Act.Old.Vals) (h4 : RdS w (Iv 0 w.heap.size) (RF e_Str) 1 A4 p_1.Act.New.Vals.length c4 p_1.Act.New.Vals) (pre0 : wf_Table p_0) (pre1 : wf_Stmt p_1) : Cal Try.prog 11 #[.agg #[.string (bs (p_0.Name)), .slice A1 p_0.Cols.length c1, .slice A2 p_0.Idxs.length c2], .agg #[.int .i64 (p_1.Kind), .int .i64 (p_1.Act.Kind), .slice A3 p_1.Act.Old.Vals.length c3, .slice A4 p_1.Act.New.Vals.length c4, .string (bs (p_1.Idx)), .string (bs (p_1.Low)), .string (bs (p_1.High))]] w fun v w' => v = .bool ((l_FnExactStmtOps p_0 p_1)) ∧ Ex w w' := by
 refine Cal.of (vs := [.agg #[.string (bs (p_0.Name)), .slice A1 p_0.Cols.length c1, .slice A2 p_0.Idxs.length c2], .agg #[.int .i64 (p_1.Kind), .int .i64 (p_1.Act.Kind), .slice A3 p_1.Act.Old.Vals.length c3, .slice A4 p_1.Act.New.Vals.length c4, .string (bs (p_1.Idx)), .string (bs (p_1.Low)), .string (bs (p_1.High))]]) Try.func11 rfl Try.ntmps11 rfl (CW.seq (CW.region (sd rfl (yl_box (cs := [.string (bs (p_0.Name)), .slice A1 p_0.Cols.length c1, .slice A2 p_0.Idxs.length c2]) rfl rfl rfl ?_))))
 intro b5 w6 hs7 hz8 hB9 hE10
 refine sd rfl (yl_box (cs := [.int .i64 (p_1.Kind), .int .i64 (p_1.Act.Kind), .slice A3 p_1.Act.Old.Vals.length c3, .slice A4 p_1.Act.New.Vals.length c4, .string (bs (p_1.Idx)), .string (bs (p_1.Low)), .string (bs (p_1.High))]) rfl rfl rfl ?_)
 intro b11 w12 hs13 hz14 hB15 hE16
 refine sd rfl (yl_assign rfl rfl (SeqR.done (tn (CW.seq (CW.region (sd rfl (yl_assign rfl rfl (SeqR.done (tn (CW.seq ?_))))))))))
 refine CW.region ?_
 have q17 := Box.ex hB9 hE16
 refine sd rfl (yl_loadN (cs := [.string (bs (p_0.Name)), .slice A1 p_0.Cols.length c1, .slice A2 p_0.Idxs.length c2]) Try.ty55 rfl rfl (q17.cells (n := 3) rfl) rfl (sd rfl (yl_move rfl rfl ?_)))
 have q19 := RdS.ex good_Str (RdS.ex good_Str h1 hE10) hE16
 have q21 := RdS.ex good_Idx (RdS.ex good_Idx h2 hE10) hE16
 refine sd rfl (yl_call Try.en32 rfl (opvs_cons rfl (opvs_cons rfl opvs_nil)) (Cal.mono (c_l_szTable p_0 1048576 (RdS.up q19 good_Str) (RdS.up q21 good_Idx)) ?_))
 rintro v23 w22 ⟨rfl, hE24⟩
 have hE24z := Ex.size hE24
 refine sd rfl (yl_assign rfl rfl (SeqR.done (tn (CW.seq (CW.seq (CW.region (sd rfl (yl_move rfl rfl (sd rfl (yl_lss rfl rfl rfl (SeqR.done ?_)))))))))))
 refine tn (bcase (decide ((l_szTable p_0 1048576) < 0)) (fun hb25 => ?_) (fun hb25 => ?_))
 ·have hb25p := dec_t hb25
  refine CW.cond_t rfl hb25 (CW.seq (CW.region (sd rfl (yl_assign rfl rfl (SeqR.done (tn (CW.ret (tr (rr rfl (.cons rfl .nil) ?_)))))))))
  have hM26 : (l_FnExactStmtOps p_0 p_1) = (true) := by simp only [l_FnExactStmtOps, hb25, cond_true, cond_false, loopE_done, loopE_ret]
  rw [hM26]
  exact ⟨rfl, (Ex.trans (Ex.trans (Ex.trans (Ex.refl w) hE10) hE16) hE24)⟩
 ·have hb25p := dec_f hb25
  refine CW.cond_f rfl hb25 (CW.skip (tn (CW.seq (CW.region ?_))))
  have q30 := Box.ex hB15 hE24
  refine sd rfl (yl_loadN (cs := [.int .i64 (p_1.Kind), .int .i64 (p_1.Act.Kind), .slice A3 p_1.Act.Old.Vals.length c3, .slice A4 p_1.Act.New.Vals.length c4, .string (bs (p_1.Idx)), .string (bs (p_1.Low)), .string (bs (p_1.High))]) Try.ty99 rfl rfl (q30.cells (n := 7) rfl) rfl (sd rfl (yl_move rfl rfl ?_)))
  have q33 := RdS.ex good_Str (RdS.ex good_Str (RdS.ex good_Str h3 hE10) hE16) hE24
  have q36 := RdS.ex good_Str (RdS.ex good_Str (RdS.ex good_Str h4 hE10) hE16) hE24
  refine sd rfl (yl_call Try.en62 rfl (opvs_cons rfl (opvs_cons rfl opvs_nil)) (Cal.mono (c_l_szStmt p_1 (l_szTable p_0 1048576) (RdS.up q33 good_Str) (RdS.up q36 good_Str)) ?_))
  rintro v38 w37 ⟨rfl, hE39⟩
  have hE39z := Ex.size hE39
  refine sd rfl (yl_assign rfl rfl (SeqR.done (tn (CW.seq (CW.seq (CW.region (sd rfl (yl_move rfl rfl (sd rfl (yl_lss rfl rfl rfl (SeqR.done ?_)))))))))))
  refine tn (bcase (decide ((l_szStmt p_1 (l_szTable p_0 1048576)) < 0)) (fun hb40 => ?_) (fun hb40 => ?_))
  ·have hb40p := dec_t hb40
   refine CW.cond_t rfl hb40 (CW.seq (CW.region (sd rfl (yl_assign rfl rfl (SeqR.done (tn (CW.ret (tr (rr rfl (.cons rfl .nil) ?_)))))))))
   have hM41 : (l_FnExactStmtOps p_0 p_1) = (true) := by simp only [l_FnExactStmtOps, hb25, hb40, cond_true, cond_false, loopE_done, loopE_ret]
   rw [hM41]
   exact ⟨rfl, (Ex.trans (Ex.trans (Ex.trans (Ex.trans (Ex.refl w) hE10) hE16) hE24) hE39)⟩
  ·have hb40p := dec_f hb40
   refine CW.cond_f rfl hb40 (CW.skip (tn (CW.seq ?_)))
   have q47 := Box.ex (Box.ex q17 hE24) hE39
   have q49 := RdS.ex good_Str (RdS.ex good_Str q19 hE24) hE39
   have q51 := RdS.ex good_Idx (RdS.ex good_Idx q21 hE24) hE39
   have q55 := Box.ex q30 hE39
   have q56 := RdS.ex good_Str q33 hE39
   have q57 := RdS.ex good_Str q36 hE39
   refine CW.drawsI 10 (vgetI [DetI (.agg #[.string (bs (p_0.Name)), .slice A1 p_0.Cols.length c1, .slice A2 p_0.Idxs.length c2]), fun lo hi v wq => ∃ A53 c53 lo53 hi53 A54 c54 lo54 hi54, v = .agg #[.string (bs (p_0.Name)), .slice A53 p_0.Cols.length c53, .slice A54 p_0.Idxs.length c54] ∧ OwnL wq lo53 hi53 9 1 (RF e_Str) A53 p_0.Cols.length c53 p_0.Cols ∧ OwnL wq lo54 hi54 152 3 (RF e_Idx) A54 p_0.Idxs.length c54 p_0.Idxs ∧ (lo ≤ lo53 ∧ lo53 ≤ hi53 ∧ hi53 ≤ hi) ∧ (lo ≤ lo54 ∧ lo54 ≤ hi54 ∧ hi54 ≤ hi) ∧ (hi53 ≤ lo54 ∨ hi54 ≤ lo53), DetI (.agg #[.int .i64 (p_1.Kind), .int .i64 (p_1.Act.Kind), .slice A3 p_1.Act.Old.Vals.length c3, .slice A4 p_1.Act.New.Vals.length c4, .string (bs (p_1.Idx)), .string (bs (p_1.Low)), .string (bs (p_1.High))]), fun lo hi v wq => ∃ A59 c59 lo59 hi59 A60 c60 lo60 hi60, v = .agg #[.int .i64 (p_1.Kind), .int .i64 (p_1.Act.Kind), .slice A59 p_1.Act.Old.Vals.length c59, .slice A60 p_1.Act.New.Vals.length c60, .string (bs (p_1.Idx)), .string (bs (p_1.Low)), .string (bs (p_1.High))] ∧ OwnL wq lo59 hi59 9 1 (RF e_Str) A59 p_1.Act.Old.Vals.length c59 p_1.Act.Old.Vals ∧ OwnL wq lo60 hi60 9 1 (RF e_Str) A60 p_1.Act.New.Vals.length c60 p_1.Act.New.Vals ∧ (lo ≤ lo59 ∧ lo59 ≤ hi59 ∧ hi59 ≤ hi) ∧ (lo ≤ lo60 ∧ lo60 ≤ hi60 ∧ hi60 ≤ hi) ∧ (hi59 ≤ lo60 ∨ hi60 ≤ lo59), fun lo hi v wq => ∃ A62 c62 lo62 hi62, v = .tuple #[.slice A62 (((s_StmtOps p_0 p_1).1).length) c62, .bool ((s_StmtOps p_0 p_1).2)] ∧ OwnL wq lo62 hi62 163 4 (RF e_Op) A62 (((s_StmtOps p_0 p_1).1).length) c62 ((s_StmtOps p_0 p_1).1) ∧ (lo ≤ lo62 ∧ lo62 ≤ hi62 ∧ hi62 ≤ hi), fun lo hi v wq => ∃ A62 c62, v = .tuple #[.slice A62 (((s_StmtOps p_0 p_1).1).length) c62, .bool ((s_StmtOps p_0 p_1).2)] ∧ RdS wq (Ge w37.heap.size) (RF e_Op) 4 A62 ((s_StmtOps p_0 p_1).1).length c62 ((s_StmtOps p_0 p_1).1), fun lo hi v wq => ∃ A62 c62, v = .slice A62 (((s_StmtOps p_0 p_1).1).length) c62 ∧ RdS wq (Ge w37.heap.size) (RF e_Op) 4 A62 ((s_StmtOps p_0 p_1).1).length c62 ((s_StmtOps p_0 p_1).1), DetI (.bool ((s_StmtOps p_0 p_1).2)), fun lo hi v wq => ∃ A62 c62, v = .slice A62 (((s_StmtOps p_0 p_1).1).length) c62 ∧ RdS wq (Ge w37.heap.size) (RF e_Op) 4 A62 ((s_StmtOps p_0 p_1).1).length c62 ((s_StmtOps p_0 p_1).1), DetI (.bool ((s_StmtOps p_0 p_1).2))]) Try.follows rfl rfl rfl rfl rfl rfl (vgetI_stable ⟨StableI.det _, (fun _ _ _ _ _ ⟨A53, c53, lo53, hi53, A54, c54, lo54, hi54, hv, h53, h54, hr0, hr1, hr2⟩ e => ⟨A53, c53, lo53, hi53, A54, c54, lo54, hi54, hv, OwnL.ex good_Str h53 e, OwnL.ex good_Idx h54 e, hr0, hr1, hr2⟩), StableI.det _, (fun _ _ _ _ _ ⟨A59, c59, lo59, hi59, A60, c60, lo60, hi60, hv, h59, h60, hr0, hr1, hr2⟩ e => ⟨A59, c59, lo59, hi59, A60, c60, lo60, hi60, hv, OwnL.ex good_Str h59 e, OwnL.ex good_Str h60 e, hr0, hr1, hr2⟩), (fun _ _ _ _ _ ⟨A62, c62, lo62, hi62, hv, h62, hr0⟩ e => ⟨A62, c62, lo62, hi62, hv, OwnL.ex good_Op h62 e, hr0⟩), (fun _ _ _ _ _ ⟨A62, c62, hv, h63⟩ e => ⟨A62, c62, hv, RdS.ex good_Op h63 e⟩), (fun _ _ _ _ _ ⟨A62, c62, hv, h64⟩ e => ⟨A62, c62, hv, RdS.ex good_Op h64 e⟩), StableI.det _, (fun _ _ _ _ _ ⟨A62, c62, hv, h65⟩ e => ⟨A62, c62, hv, RdS.ex good_Op h65 e⟩), StableI.det _, trivial⟩) ⟨?_, ?_, ?_, ?_, ?_, ?_, ?_, ?_, ?_, ?_, trivial⟩ ?_
   ·exact fun _ _ h => os rfl ((yl_loadN (cs := [.string (bs (p_0.Name)), .slice A1 p_0.Cols.length c1, .slice A2 p_0.Idxs.length c2]) Try.ty55 rfl (h.old 2 _ rfl rfl) ((Box.ex q47 h.ex).cells (n := 3) rfl) rfl kI))
   ·intro L72 w73 hi74
    have hE75 := hi74.ex
    refine OpR.op' rfl (yl_call Try.en35 rfl (opvs_cons (hi74.dt 0 28 rfl rfl rfl) opvs_nil) (Cal.mono (c_l_toTable p_0 (RdS.up (RdS.ex good_Str q49 hE75) good_Str) (RdS.up (RdS.ex good_Idx q51 hE75) good_Idx) ((szok_Table pre0 (by decide) (dec_f hb25)).1)) ?_))
    rintro v82 w79 ⟨A80, c80, lo80, hi80, A81, c81, lo81, hi81, rfl, h80, h81, hrn84, hrn85, hrn86, hE83⟩
    exact ⟨⟨A80, c80, lo80, hi80, A81, c81, lo81, hi81, rfl, h80, h81, hrn84, hrn85, hrn86⟩, hE83⟩
   ·exact fun _ _ h => os rfl ((yl_loadN (cs := [.int .i64 (p_1.Kind), .int .i64 (p_1.Act.Kind), .slice A3 p_1.Act.Old.Vals.length c3, .slice A4 p_1.Act.New.Vals.length c4, .string (bs (p_1.Idx)), .string (bs (p_1.Low)), .string (bs (p_1.High))]) Try.ty99 rfl (h.old 3 _ rfl rfl) ((Box.ex q55 h.ex).cells (n := 7) rfl) rfl kI))
   ·intro L93 w94 hi95
    have hE96 := hi95.ex
    refine OpR.op' rfl (yl_call Try.en64 rfl (opvs_cons (hi95.dt 2 30 rfl rfl rfl) opvs_nil) (Cal.mono (c_l_toStmt p_1 (RdS.up (RdS.ex good_Str q56 hE96) good_Str) (RdS.up (RdS.ex good_Str q57 hE96) good_Str) ((szok_Stmt pre1 (szok_Table pre0 (by decide) (dec_f hb25)).2 (dec_f hb40)).1)) ?_))
    rintro v103 w100 ⟨A101, c101, lo101, hi101, A102, c102, lo102, hi102, rfl, h101, h102, hrn105, hrn106, hrn107, hE104⟩
    exact ⟨⟨A101, c101, lo101, hi101, A102, c102, lo102, hi102, rfl, h101, h102, hrn105, hrn106, hrn107⟩, hE104⟩
   ·intro L108 w109 hi110
    obtain ⟨lo113, hh114, _, hx112, hr115, hr116, hr117, A53_118, c53_119, lo53_120, hi53_121, A54_122, c54_123, lo54_124, hi54_125, rfl, h126, h127, hrn128, hrn129, hrn130⟩ := hi110.dep 1 29 rfl rfl
    obtain ⟨lo132, hh133, _, hx131, hr134, hr135, hr136, A59_137, c59_138, lo59_139, hi59_140, A60_141, c60_142, lo60_143, hi60_144, rfl, h145, h146, hrn147, hrn148, hrn149⟩ := hi110.dep 3 31 rfl rfl
    refine OpR.op' rfl (yl_call Try.en63 rfl (opvs_cons hx112 (opvs_cons hx131 opvs_nil)) (Cal.mono (c_s_StmtOps p_0 p_1 (RdS.up (OwnL.rd good_Str h126) good_Str) (RdS.up (OwnL.rd good_Idx h127) good_Idx) (RdS.up (OwnL.rd good_Str h145) good_Str) (RdS.up (OwnL.rd good_Str h146) good_Str) ((szok_Table pre0 (by decide) (dec_f hb25)).1) ((szok_Stmt pre1 (szok_Table pre0 (by decide) (dec_f hb25)).2 (dec_f hb40)).1)) ?_))
    rintro v156 w154 ⟨A155, c155, lo155, hi155, rfl, h155, hrn158, hE157⟩
    exact ⟨⟨A155, c155, lo155, hi155, rfl, h155, hrn158⟩, hE157⟩
   ·intro L159 w160 hi161
    have hE162 := hi161.ex
    have hE162z := Ex.size hE162
    obtain ⟨lo164, hh165, _, hx163, hr166, hr167, hr168, A62_169, c62_170, lo62_171, hi62_172, rfl, h173, hrn174⟩ := hi161.dep 4 32 rfl rfl
    exact os rfl ((yl_move rfl hx163 ⟨fun _ _ => ⟨A62_169, c62_170, rfl, (RdS.ivG good_Op (OwnL.rd good_Op h173) (by omega))⟩, rfl⟩))
   ·intro L175 w176 hi177
    obtain ⟨lo180, hh181, _, hx179, hr182, hr183, hr184, A62_185, c62_186, rfl, h187⟩ := hi177.dep 5 27 rfl rfl
    exact os rfl ((yl_extract rfl hx179 rfl ⟨fun _ _ => ⟨A62_185, c62_186, rfl, h187⟩, rfl⟩))
   ·intro L188 w189 hi190
    obtain ⟨lo193, hh194, _, hx192, hr195, hr196, hr197, A62_198, c62_199, rfl, h200⟩ := hi190.dep 5 27 rfl rfl
    exact os rfl ((yl_extract rfl hx192 rfl kI))
   ·intro L201 w202 hi203
    obtain ⟨lo206, hh207, _, hx205, hr208, hr209, hr210, A62_211, c62_212, rfl, h213⟩ := hi203.dep 6 33 rfl rfl
    exact os rfl ((yl_assign rfl hx205 ⟨fun _ _ => ⟨A62_211, c62_212, rfl, h213⟩, rfl⟩))
   ·exact fun _ _ h => os rfl ((yl_assign rfl (h.dt 7 34 rfl rfl rfl) kI))
   ·intro fl222 fh223 L219 w220 hp221
    have hE224 := hp221.ex
    have hE224z := Ex.size hE224
    have hr228 := hp221.rng 1 rfl
    obtain ⟨_, hx227, A53_229, c53_230, lo53_231, hi53_232, A54_233, c54_234, lo54_235, hi54_236, rfl, h237, h238, hrn239, hrn240, hrn241⟩ := hp221.new 1 29 rfl rfl
    have hr243 := hp221.rng 3 rfl
    have hsp244 := hp221.sep 1 3 rfl rfl rfl
    obtain ⟨_, hx242, A59_245, c59_246, lo59_247, hi59_248, A60_249, c60_250, lo60_251, hi60_252, rfl, h253, h254, hrn255, hrn256, hrn257⟩ := hp221.new 3 31 rfl rfl
    have hr259 := hp221.rng 4 rfl
    have hsp260 := hp221.sep 1 4 rfl rfl rfl
    have hsp261 := hp221.sep 3 4 rfl rfl rfl
    obtain ⟨_, hx258, A62_262, c62_263, lo62_264, hi62_265, rfl, h266, hrn267⟩ := hp221.new 4 32 rfl rfl
    obtain ⟨_, hx268, A62_269, c62_270, rfl, h271⟩ := hp221.new 8 6 rfl rfl
    have hq272 := RdS.wideG good_Op h271 (Nat.le_refl _)
    refine SeqR.done (tn (CW.sub (Sub.cons (d := 2) (hp221.old 2 _ rfl rfl) (Sub.cons (d := 3) (hp221.old 3 _ rfl rfl) (Sub.cons (d := 6) hx268 (Sub.cons (d := 7) (hp221.nt 9 7 rfl rfl rfl) (Sub.nil _))))) (CW.seq (CW.region ?_))))
    have q274 := Box.ex q47 hE224
    refine sd rfl (yl_loadN (cs := [.string (bs (p_0.Name)), .slice A1 p_0.Cols.length c1, .slice A2 p_0.Idxs.length c2]) Try.ty55 rfl rfl (q274.cells (n := 3) rfl) rfl ?_)
    have q275 := RdS.ex good_Str q49 hE224
    have q276 := RdS.ex good_Idx q51 hE224
    refine sd rfl (yl_call Try.en35 rfl (opvs_cons rfl opvs_nil) (Cal.mono (c_l_toTable p_0 (RdS.up q275 good_Str) (RdS.up q276 good_Idx) ((szok_Table pre0 (by decide) (dec_f hb25)).1)) ?_))
    rintro v280 w277 ⟨A278, c278, lo278, hi278, A279, c279, lo279, hi279, rfl, h278, h279, hrn282, hrn283, hrn284, hE281⟩
    have hE281z := Ex.size hE281
    refine sd rfl (yl_alloc Try.ty65 (cs := [.string (bs (([] : Str))), .slice none 0 0, .slice none 0 0]) rfl rfl ?_)
    intro b285 w286 hs287 hz288 hB289 hE290
    refine SeqR.u rfl rfl (yl_store (vs := [.string (bs (p_0.Name)), .slice A278 p_0.Cols.length c278, .slice A279 p_0.Idxs.length c279]) Try.ty65 rfl rfl rfl rfl rfl rfl hB289 (Nat.le_of_ble_eq_true rfl) ?_)
    intro w291 hB292 hO293
    have hB292 : Box w291 b285 65 [.string (bs (p_0.Name)), .slice A278 p_0.Cols.length c278, .slice A279 p_0.Idxs.length c279] := hB292
    have hO293z := hO293.size
    refine SeqR.done (tn (CW.seq (CW.region ?_)))
    have q297 := Box.only (Box.ex (Box.ex (Box.ex q55 hE224) hE281) hE290) hO293 (by omega)
    refine sd rfl (yl_loadN (cs := [.int .i64 (p_1.Kind), .int .i64 (p_1.Act.Kind), .slice A3 p_1.Act.Old.Vals.length c3, .slice A4 p_1.Act.New.Vals.length c4, .string (bs (p_1.Idx)), .string (bs (p_1.Low)), .string (bs (p_1.High))]) Try.ty99 rfl rfl (q297.cells (n := 7) rfl) rfl ?_)
    have q301 := RdS.only good_Str (RdS.ex good_Str (RdS.ex good_Str (RdS.ex good_Str q56 hE224) hE281) hE290) hO293 (by simp only [Iv]; omega)
    have q305 := RdS.only good_Str (RdS.ex good_Str (RdS.ex good_Str (RdS.ex good_Str q57 hE224) hE281) hE290) hO293 (by simp only [Iv]; omega)
    refine sd rfl (yl_call Try.en64 rfl (opvs_cons rfl opvs_nil) (Cal.mono (c_l_toStmt p_1 (RdS.up q301 good_Str) (RdS.up q305 good_Str) ((szok_Stmt pre1 (szok_Table pre0 (by decide) (dec_f hb25)).2 (dec_f hb40)).1)) ?_))
    rintro v309 w306 ⟨A307, c307, lo307, hi307, A308, c308, lo308, hi308, rfl, h307, h308, hrn311, hrn312, hrn313, hE310⟩
    have hE310z := Ex.size hE310
    refine sd rfl (yl_alloc Try.ty103 (cs := [.int .i64 (0), .int .i64 (0), .slice none 0 0, .slice none 0 0, .string (bs (([] : Str))), .string (bs (([] : Str))), .string (bs (([] : Str)))]) rfl rfl ?_)
    intro b314 w315 hs316 hz317 hB318 hE319
    refine SeqR.u rfl rfl (yl_store (vs := [.int .i64 (p_1.Kind), .int .i64 (p_1.Act.Kind), .slice A307 p_1.Act.Old.Vals.length c307, .slice A308 p_1.Act.New.Vals.length c308, .string (bs (p_1.Idx)), .string (bs (p_1.Low)), .string (bs (p_1.High))]) Try.ty103 rfl rfl rfl rfl rfl rfl hB318 (Nat.le_of_ble_eq_true rfl) ?_)
    intro w320 hB321 hO322
    have hB321 : Box w320 b314 103 [.int .i64 (p_1.Kind), .int .i64 (p_1.Act.Kind), .slice A307 p_1.Act.Old.Vals.length c307, .slice A308 p_1.Act.New.Vals.length c308, .string (bs (p_1.Idx)), .string (bs (p_1.Low)), .string (bs (p_1.High))] := hB321
    have hO322z := hO322.size
    refine SeqR.done (tn (CW.seq (CW.region ?_)))
    have q325 := Box.only (Box.ex (Box.ex hB292 hE310) hE319) hO322 (by omega)
    refine sd rfl (yl_loadN (cs := [.string (bs (p_0.Name)), .slice A278 p_0.Cols.length c278, .slice A279 p_0.Idxs.length c279]) Try.ty65 rfl rfl (q325.cells (n := 3) rfl) rfl (sd rfl (yl_loadN (cs := [.int .i64 (p_1.Kind), .int .i64 (p_1.Act.Kind), .slice A307 p_1.Act.Old.Vals.length c307, .slice A308 p_1.Act.New.Vals.length c308, .string (bs (p_1.Idx)), .string (bs (p_1.Low)), .string (bs (p_1.High))]) Try.ty103 rfl rfl (hB321.cells (n := 7) rfl) rfl ?_)))
    have q331 := OwnL.only good_Str (OwnL.ex good_Str (OwnL.ex good_Str (OwnL.only good_Str (OwnL.ex good_Str h278 hE290) hO293 (by omega)) hE310) hE319) hO322 (by omega)
    have q337 := OwnL.only good_Idx (OwnL.ex good_Idx (OwnL.ex good_Idx (OwnL.only good_Idx (OwnL.ex good_Idx h279 hE290) hO293 (by omega)) hE310) hE319) hO322 (by omega)
    have q340 := OwnL.only good_Str (OwnL.ex good_Str h307 hE319) hO322 (by omega)
    have q343 := OwnL.only good_Str (OwnL.ex good_Str h308 hE319) hO322 (by omega)
    refine sd rfl (yl_call Try.en65 rfl (opvs_cons rfl (opvs_cons rfl opvs_nil)) (Cal.mono (c_i_StmtOps p_0 p_1 (RdS.up (OwnL.rd good_Str q331) good_Str) (RdS.up (OwnL.rd good_Idx q337) good_Idx) (RdS.up (OwnL.rd good_Str q340) good_Str) (RdS.up (OwnL.rd good_Str q343) good_Str) ((szok_Table pre0 (by decide) (dec_f hb25)).1) ((szok_Stmt pre1 (szok_Table pre0 (by decide) (dec_f hb25)).2 (dec_f hb40)).1)) ?_))
    rintro v346 w344 ⟨A345, c345, lo345, hi345, rfl, h345, hrn348, hE347⟩
    have hE347z := Ex.size hE347
    refine sd rfl (yl_move rfl rfl (sd rfl (yl_extract rfl rfl rfl (sd rfl (yl_extract rfl rfl rfl (sd rfl (yl_assign rfl rfl (sd rfl (yl_assign rfl rfl (SeqR.done (tn (CW.seq (CW.seq ?_)))))))))))))
    refine CW.region (sd rfl (yl_move rfl rfl (sd rfl (yl_move rfl rfl ?_))))
    have q356 := RdS.ex good_Op (RdS.only good_Op (RdS.ex good_Op (RdS.ex good_Op (RdS.only good_Op (RdS.ex good_Op (RdS.ex good_Op hq272 hE281) hE290) hO293 (by simp only [Iv]; omega)) hE310) hE319) hO322 (by simp only [Iv]; omega)) hE347
    refine sd rfl (yl_call Try.en38 rfl (opvs_cons rfl (opvs_cons rfl opvs_nil)) (Cal.mono (c_l_eqOpS ((i_StmtOps p_0 p_1).1) ((s_StmtOps p_0 p_1).1) (RdS.up (OwnL.rd good_Op h345) good_Op) (RdS.up q356 good_Op)) ?_))
    rintro v358 w357 ⟨rfl, hE359⟩
    have hE359z := Ex.size hE359
    refine sd rfl (yl_not rfl rfl (sd rfl (yl_move rfl rfl (bcase (l_eqOpS ((i_StmtOps p_0 p_1).1) ((s_StmtOps p_0 p_1).1)) (fun hb360 => ?_) (fun hb360 => ?_)))))
    ·refine sy rfl rfl (not_t hb360) (yl_move rfl rfl (sy rfl rfl (not_t hb360) (yl_move rfl rfl (sy rfl rfl (not_t hb360) (yl_bneq Try.un4 rfl rfl rfl (sd rfl (yl_pick_f rfl rfl (not_t hb360) rfl (SeqR.done (tn (bcase (((i_StmtOps p_0 p_1).2) == ((s_StmtOps p_0 p_1).2)) (fun hb361 => ?_) (fun hb361 => ?_)))))))))))
     ·refine CW.cond_f rfl (not_t hb361) (CW.skip (tn (CW.seq (CW.seq ?_))))
      have q363 := Box.ex (Box.ex q325 hE347) hE359
      have q371 := Box.ex (Box.ex (Box.only (Box.ex (Box.ex (Box.only (Box.ex (Box.ex q274 hE281) hE290) hO293 (by omega)) hE310) hE319) hO322 (by omega)) hE347) hE359
      have q379 := RdS.ex good_Str (RdS.ex good_Str (RdS.only good_Str (RdS.ex good_Str (RdS.ex good_Str (RdS.only good_Str (RdS.ex good_Str (RdS.ex good_Str q275 hE281) hE290) hO293 (by simp only [Iv]; omega)) hE310) hE319) hO322 (by simp only [Iv]; omega)) hE347) hE359
      have q387 := RdS.ex good_Idx (RdS.ex good_Idx (RdS.only good_Idx (RdS.ex good_Idx (RdS.ex good_Idx (RdS.only good_Idx (RdS.ex good_Idx (RdS.ex good_Idx q276 hE281) hE290) hO293 (by simp only [Iv]; omega)) hE310) hE319) hO322 (by simp only [Iv]; omega)) hE347) hE359
      have q393 := OwnL.ex good_Str (OwnL.ex good_Str q331 hE347) hE359
      have q396 := OwnL.ex good_Idx (OwnL.ex good_Idx q337 hE347) hE359
      refine CW.drawsI 5 (vgetI [DetI (.agg #[.string (bs (p_0.Name)), .slice A278 p_0.Cols.length c278, .slice A279 p_0.Idxs.length c279]), DetI (.agg #[.string (bs (p_0.Name)), .slice A1 p_0.Cols.length c1, .slice A2 p_0.Idxs.length c2]), fun lo hi v wq => ∃ A389 c389 lo389 hi389 A390 c390 lo390 hi390, v = .agg #[.string (bs (p_0.Name)), .slice A389 p_0.Cols.length c389, .slice A390 p_0.Idxs.length c390] ∧ OwnL wq lo389 hi389 9 1 (RF e_Str) A389 p_0.Cols.length c389 p_0.Cols ∧ OwnL wq lo390 hi390 152 3 (RF e_Idx) A390 p_0.Idxs.length c390 p_0.Idxs ∧ (lo ≤ lo389 ∧ lo389 ≤ hi389 ∧ hi389 ≤ hi) ∧ (lo ≤ lo390 ∧ lo390 ≤ hi390 ∧ hi390 ≤ hi) ∧ (hi389 ≤ lo390 ∨ hi390 ≤ lo389), DetI (.bool ((l_eqTable p_0 p_0))), DetI (.bool (!(l_eqTable p_0 p_0)))]) Try.follows rfl rfl rfl rfl rfl rfl (vgetI_stable ⟨StableI.det _, StableI.det _, (fun _ _ _ _ _ ⟨A389, c389, lo389, hi389, A390, c390, lo390, hi390, hv, h389, h390, hr0, hr1, hr2⟩ e => ⟨A389, c389, lo389, hi389, A390, c390, lo390, hi390, hv, OwnL.ex good_Str h389 e, OwnL.ex good_Idx h390 e, hr0, hr1, hr2⟩), StableI.det _, StableI.det _, trivial⟩) ⟨?_, ?_, ?_, ?_, ?_, trivial⟩ ?_
      ·exact fun _ _ h => os rfl ((yl_loadN (cs := [.string (bs (p_0.Name)), .slice A278 p_0.Cols.length c278, .slice A279 p_0.Idxs.length c279]) Try.ty65 rfl (h.old 8 _ rfl rfl) ((Box.ex q363 h.ex).cells (n := 3) rfl) rfl kI))
      ·exact fun _ _ h => os rfl ((yl_loadN (cs := [.string (bs (p_0.Name)), .slice A1 p_0.Cols.length c1, .slice A2 p_0.Idxs.length c2]) Try.ty55 rfl (h.old 2 _ rfl rfl) ((Box.ex q371 h.ex).cells (n := 3) rfl) rfl kI))
      ·intro L410 w411 hi412
       have hE413 := hi412.ex
       refine OpR.op' rfl (yl_call Try.en35 rfl (opvs_cons (hi412.dt 1 55 rfl rfl rfl) opvs_nil) (Cal.mono (c_l_toTable p_0 (RdS.up (RdS.ex good_Str q379 hE413) good_Str) (RdS.up (RdS.ex good_Idx q387 hE413) good_Idx) ((szok_Table pre0 (by decide) (dec_f hb25)).1)) ?_))
       rintro v420 w417 ⟨A418, c418, lo418, hi418, A419, c419, lo419, hi419, rfl, h418, h419, hrn422, hrn423, hrn424, hE421⟩
       exact ⟨⟨A418, c418, lo418, hi418, A419, c419, lo419, hi419, rfl, h418, h419, hrn422, hrn423, hrn424⟩, hE421⟩
      ·intro L425 w426 hi427
       have hE428 := hi427.ex
       obtain ⟨lo431, hh432, _, hx430, hr433, hr434, hr435, A389_436, c389_437, lo389_438, hi389_439, A390_440, c390_441, lo390_442, hi390_443, rfl, h444, h445, hrn446, hrn447, hrn448⟩ := hi427.dep 2 56 rfl rfl
       refine OpR.op' rfl (yl_call Try.en39 rfl (opvs_cons (hi427.dt 0 54 rfl rfl rfl) (opvs_cons hx430 opvs_nil)) (Cal.mono (c_l_eqTable p_0 p_0 (RdS.up (OwnL.rd good_Str (OwnL.ex good_Str q393 hE428)) good_Str) (RdS.up (OwnL.rd good_Idx (OwnL.ex good_Idx q396 hE428)) good_Idx) (RdS.up (OwnL.rd good_Str h444) good_Str) (RdS.up (OwnL.rd good_Idx h445) good_Idx)) ?_))
       rintro v456 w455 ⟨rfl, hE457⟩
       exact ⟨rfl, hE457⟩
      ·exact fun _ _ h => os rfl ((yl_not rfl (h.dt 3 57 rfl rfl rfl) kI))
      ·intro fl466 fh467 L463 w464 hp465
       have hE468 := hp465.ex
       have hE468z := Ex.size hE468
       have hr478 := hp465.rng 2 rfl
       obtain ⟨_, hx477, A389_479, c389_480, lo389_481, hi389_482, A390_483, c390_484, lo390_485, hi390_486, rfl, h487, h488, hrn489, hrn490, hrn491⟩ := hp465.new 2 56 rfl rfl
       refine SeqR.done (tn (CW.sub (Sub.cons (d := 2) (hp465.old 2 _ rfl rfl) (Sub.cons (d := 3) (hp465.old 3 _ rfl rfl) (Sub.cons (d := 6) (hp465.old 6 _ rfl rfl) (Sub.cons (d := 7) (hp465.old 7 _ rfl rfl) (Sub.cons (d := 8) (hp465.old 8 _ rfl rfl) (Sub.cons (d := 9) (hp465.old 9 _ rfl rfl) (Sub.cons (d := 10) (hp465.old 10 _ rfl rfl) (Sub.cons (d := 11) (hp465.old 11 _ rfl rfl) (Sub.cons (d := 58) (hp465.nt 4 58 rfl rfl rfl) (Sub.nil _)))))))))) (bcase (l_eqTable p_0 p_0) (fun hb493 => ?_) (fun hb493 => ?_))))
       ·refine CW.cond_f rfl (not_t hb493) (CW.skip (tn (CW.seq (CW.seq ?_))))
        have q496 := Box.ex (Box.ex (Box.ex hB321 hE347) hE359) hE468
        have q502 := Box.ex (Box.ex (Box.ex (Box.only (Box.ex (Box.ex q297 hE310) hE319) hO322 (by omega)) hE347) hE359) hE468
        have q508 := RdS.ex good_Str (RdS.ex good_Str (RdS.ex good_Str (RdS.only good_Str (RdS.ex good_Str (RdS.ex good_Str q301 hE310) hE319) hO322 (by simp only [Iv]; omega)) hE347) hE359) hE468
        have q514 := RdS.ex good_Str (RdS.ex good_Str (RdS.ex good_Str (RdS.only good_Str (RdS.ex good_Str (RdS.ex good_Str q305 hE310) hE319) hO322 (by simp only [Iv]; omega)) hE347) hE359) hE468
        have q521 := OwnL.ex good_Str (OwnL.ex good_Str (OwnL.ex good_Str q340 hE347) hE359) hE468
        have q525 := OwnL.ex good_Str (OwnL.ex good_Str (OwnL.ex good_Str q343 hE347) hE359) hE468
        refine CW.drawsI 5 (vgetI [DetI (.agg #[.int .i64 (p_1.Kind), .int .i64 (p_1.Act.Kind), .slice A307 p_1.Act.Old.Vals.length c307, .slice A308 p_1.Act.New.Vals.length c308, .string (bs (p_1.Idx)), .string (bs (p_1.Low)), .string (bs (p_1.High))]), DetI (.agg #[.int .i64 (p_1.Kind), .int .i64 (p_1.Act.Kind), .slice A3 p_1.Act.Old.Vals.length c3, .slice A4 p_1.Act.New.Vals.length c4, .string (bs (p_1.Idx)), .string (bs (p_1.Low)), .string (bs (p_1.High))]), fun lo hi v wq => ∃ A516 c516 lo516 hi516 A517 c517 lo517 hi517, v = .agg #[.int .i64 (p_1.Kind), .int .i64 (p_1.Act.Kind), .slice A516 p_1.Act.Old.Vals.length c516, .slice A517 p_1.Act.New.Vals.length c517, .string (bs (p_1.Idx)), .string (bs (p_1.Low)), .string (bs (p_1.High))] ∧ OwnL wq lo516 hi516 9 1 (RF e_Str) A516 p_1.Act.Old.Vals.length c516 p_1.Act.Old.Vals ∧ OwnL wq lo517 hi517 9 1 (RF e_Str) A517 p_1.Act.New.Vals.length c517 p_1.Act.New.Vals ∧ (lo ≤ lo516 ∧ lo516 ≤ hi516 ∧ hi516 ≤ hi) ∧ (lo ≤ lo517 ∧ lo517 ≤ hi517 ∧ hi517 ≤ hi) ∧ (hi516 ≤ lo517 ∨ hi517 ≤ lo516), DetI (.bool ((l_eqStmt p_1 p_1))), DetI (.bool (!(l_eqStmt p_1 p_1)))]) Try.follows rfl rfl rfl rfl rfl rfl (vgetI_stable ⟨StableI.det _, StableI.det _, (fun _ _ _ _ _ ⟨A516, c516, lo516, hi516, A517, c517, lo517, hi517, hv, h516, h517, hr0, hr1, hr2⟩ e => ⟨A516, c516, lo516, hi516, A517, c517, lo517, hi517, hv, OwnL.ex good_Str h516 e, OwnL.ex good_Str h517 e, hr0, hr1, hr2⟩), StableI.det _, StableI.det _, trivial⟩) ⟨?_, ?_, ?_, ?_, ?_, trivial⟩ ?_
        ·exact fun _ _ h => os rfl ((yl_loadN (cs := [.int .i64 (p_1.Kind), .int .i64 (p_1.Act.Kind), .slice A307 p_1.Act.Old.Vals.length c307, .slice A308 p_1.Act.New.Vals.length c308, .string (bs (p_1.Idx)), .string (bs (p_1.Low)), .string (bs (p_1.High))]) Try.ty103 rfl (h.old 9 _ rfl rfl) ((Box.ex q496 h.ex).cells (n := 7) rfl) rfl kI))
        ·exact fun _ _ h => os rfl ((yl_loadN (cs := [.int .i64 (p_1.Kind), .int .i64 (p_1.Act.Kind), .slice A3 p_1.Act.Old.Vals.length c3, .slice A4 p_1.Act.New.Vals.length c4, .string (bs (p_1.Idx)), .string (bs (p_1.Low)), .string (bs (p_1.High))]) Try.ty99 rfl (h.old 3 _ rfl rfl) ((Box.ex q502 h.ex).cells (n := 7) rfl) rfl kI))
        ·intro L539 w540 hi541
         have hE542 := hi541.ex
         refine OpR.op' rfl (yl_call Try.en64 rfl (opvs_cons (hi541.dt 1 60 rfl rfl rfl) opvs_nil) (Cal.mono (c_l_toStmt p_1 (RdS.up (RdS.ex good_Str q508 hE542) good_Str) (RdS.up (RdS.ex good_Str q514 hE542) good_Str) ((szok_Stmt pre1 (szok_Table pre0 (by decide) (dec_f hb25)).2 (dec_f hb40)).1)) ?_))
         rintro v549 w546 ⟨A547, c547, lo547, hi547, A548, c548, lo548, hi548, rfl, h547, h548, hrn551, hrn552, hrn553, hE550⟩
         exact ⟨⟨A547, c547, lo547, hi547, A548, c548, lo548, hi548, rfl, h547, h548, hrn551, hrn552, hrn553⟩, hE550⟩
        ·intro L554 w555 hi556
         have hE557 := hi556.ex
         obtain ⟨lo560, hh561, _, hx559, hr562, hr563, hr564, A516_565, c516_566, lo516_567, hi516_568, A517_569, c517_570, lo517_571, hi517_572, rfl, h573, h574, hrn575, hrn576, hrn577⟩ := hi556.dep 2 61 rfl rfl
         refine OpR.op' rfl (yl_call Try.en66 rfl (opvs_cons (hi556.dt 0 59 rfl rfl rfl) (opvs_cons hx559 opvs_nil)) (Cal.mono (c_l_eqStmt p_1 p_1 (RdS.up (OwnL.rd good_Str (OwnL.ex good_Str q521 hE557)) good_Str) (RdS.up (OwnL.rd good_Str (OwnL.ex good_Str q525 hE557)) good_Str) (RdS.up (OwnL.rd good_Str h573) good_Str) (RdS.up (OwnL.rd good_Str h574) good_Str)) ?_))
         rintro v585 w584 ⟨rfl, hE586⟩
         exact ⟨rfl, hE586⟩
        ·exact fun _ _ h => os rfl ((yl_not rfl (h.dt 3 62 rfl rfl rfl) kI))
        ·intro fl595 fh596 L592 w593 hp594
         have hE597 := hp594.ex
         have hE597z := Ex.size hE597
         have hr607 := hp594.rng 2 rfl
         obtain ⟨_, hx606, A516_608, c516_609, lo516_610, hi516_611, A517_612, c517_613, lo517_614, hi517_615, rfl, h616, h617, hrn618, hrn619, hrn620⟩ := hp594.new 2 61 rfl rfl
         refine SeqR.done (tn (CW.sub (Sub.cons (d := 2) (hp594.old 2 _ rfl rfl) (Sub.cons (d := 3) (hp594.old 3 _ rfl rfl) (Sub.cons (d := 6) (hp594.old 6 _ rfl rfl) (Sub.cons (d := 7) (hp594.old 7 _ rfl rfl) (Sub.cons (d := 8) (hp594.old 8 _ rfl rfl) (Sub.cons (d := 9) (hp594.old 9 _ rfl rfl) (Sub.cons (d := 10) (hp594.old 10 _ rfl rfl) (Sub.cons (d := 11) (hp594.old 11 _ rfl rfl) (Sub.cons (d := 63) (hp594.nt 4 63 rfl rfl rfl) (Sub.nil _)))))))))) (bcase (l_eqStmt p_1 p_1) (fun hb622 => ?_) (fun hb622 => ?_))))
         ·refine CW.cond_f rfl (not_t hb622) (CW.skip (tn (CW.seq (CW.region (sd rfl (yl_assign rfl rfl (SeqR.done (tn (CW.seq ?_)))))))))
          refine CW.region (sd rfl (yl_loadN (cs := [.string (bs (p_0.Name)), .slice A278 p_0.Cols.length c278, .slice A279 p_0.Idxs.length c279]) Try.ty65 rfl rfl ((Box.ex (Box.ex q363 hE468) hE597).cells (n := 3) rfl) rfl (sd rfl (yl_move rfl rfl (sd rfl (yl_call Try.en41 rfl (opvs_cons rfl (opvs_cons rfl opvs_nil)) (Cal.mono (c_l_markTable p_0 1 (OwnL.ex good_Str (OwnL.ex good_Str q393 hE468) hE597) (OwnL.ex good_Idx (OwnL.ex good_Idx q396 hE468) hE597) (by omega) (by omega) (by omega) (by first | omega | assumption | (simp only [IntKind.wrap_i64] at *; omega))) ?_)))))))
          rintro v630 w629 ⟨rfl, h632, h633, hm631⟩
          have hm631z := Mut.size hm631
          have hrf634 := rf_markTable p_0 1 (by first | omega | assumption | (simp only [IntKind.wrap_i64] at *; omega))
          refine sd rfl (yl_assign rfl rfl (SeqR.done (tn (CW.seq (CW.region (sd rfl (yl_loadN (cs := [.int .i64 (p_1.Kind), .int .i64 (p_1.Act.Kind), .slice A307 p_1.Act.Old.Vals.length c307, .slice A308 p_1.Act.New.Vals.length c308, .string (bs (p_1.Idx)), .string (bs (p_1.Low)), .string (bs (p_1.High))]) Try.ty103 rfl rfl ((Box.mut (Box.ex q496 hE597) hm631 (fun k hk => by simp only [InR, or_false] at hk; omega)).cells (n := 7) rfl) rfl (sd rfl (yl_move rfl rfl (sd rfl (yl_call Try.en67 rfl (opvs_cons rfl (opvs_cons rfl opvs_nil)) (Cal.mono (c_l_markStmt p_1 ((l_markTable p_0 1).1) (OwnL.mut good_Str (OwnL.ex good_Str q521 hE597) hm631 (fun k hk => by simp only [InR, or_false] at hk; omega)) (OwnL.mut good_Str (OwnL.ex good_Str q525 hE597) hm631 (fun k hk => by simp only [InR, or_false] at hk; omega)) (by omega) (by omega) (by omega) (by first | omega | assumption | (simp only [IntKind.wrap_i64] at *; omega))) ?_))))))))))))
          rintro v642 w641 ⟨rfl, h644, h645, hm643⟩
          have hm643z := Mut.size hm643
          have hrf646 := rf_markStmt p_1 ((l_markTable p_0 1).1) (by first | omega | assumption | (simp only [IntKind.wrap_i64] at *; omega))
          refine sd rfl (yl_assign rfl rfl (SeqR.done (tn (CW.seq (CW.seq (CW.region (sd rfl (yl_move rfl rfl (sd rfl (yl_lss rfl rfl rfl (sd rfl (yl_move rfl rfl ?_))))))))))))
          refine bcase (decide (((l_markStmt p_1 ((l_markTable p_0 1).1)).1) < 0)) (fun hb647 => ?_) (fun hb647 => ?_)
          ·have hb647p := dec_t hb647
           refine sz rfl rfl hb647 (sz rfl rfl hb647 (sz rfl rfl hb647 (sz rfl rfl hb647 (sd rfl (yl_pick_t rfl rfl hb647 rfl (sd rfl (yl_move rfl rfl (sz rfl rfl rfl (sz rfl rfl rfl (sz rfl rfl rfl ?_))))))))))
           refine sd rfl (yl_pick_t rfl rfl rfl rfl (SeqR.done (tn (CW.cond_t rfl rfl (CW.seq (CW.region (sd rfl (yl_assign rfl rfl (SeqR.done (tn ?_))))))))))
           refine CW.ret (tr (rr rfl (.cons rfl .nil) ?_))
           have hM648 : (l_FnExactStmtOps p_0 p_1) = (false) := by simp only [l_FnExactStmtOps, hb25, hb40, hb360, hb361, hb493, hb622, hb647, cond_true, cond_false, loopE_done, loopE_ret]
           rw [hM648]
           have q665 := Ex.mut (Ex.mut (Ex.trans (Ex.trans (Ex.trans (Ex.trans (Below.only (Ex.trans (Ex.trans (Below.only (Ex.trans (Ex.trans (Ex.trans (Ex.trans (Ex.trans (Ex.trans (Ex.trans (Ex.refl w) hE10) hE16) hE24) hE39) hE224) hE281) hE290) hO293 (by omega)) hE310) hE319) hO322 (by omega)) hE347) hE359) hE468) hE597) hm631 (fun k hk => by simp only [InR, or_false] at hk; omega)) hm643 (fun k hk => by simp only [InR, or_false] at hk; omega)
           exact ⟨rfl, q665⟩
          ·have hb647p := dec_f hb647
           refine sy rfl rfl hb647 (yl_move rfl rfl (sy rfl rfl hb647 (yl_move rfl rfl ?_)))
           have q671 := OwnL.mut good_Op (OwnL.mut good_Op (OwnL.ex good_Op (OwnL.ex good_Op (OwnL.ex good_Op h345 hE359) hE468) hE597) hm631 (fun k hk => by simp only [InR, or_false] at hk; omega)) hm643 (fun k hk => by simp only [InR, or_false] at hk; omega)
           have q676 := RdS.mut good_Op (RdS.mut good_Op (RdS.ex good_Op (RdS.ex good_Op (RdS.ex good_Op q356 hE359) hE468) hE597) hm631 (fun k hk => by simp only [InR, or_false, Iv, Ge] at hk ⊢; omega)) hm643 (fun k hk => by simp only [InR, or_false, Iv, Ge] at hk ⊢; omega)
           refine sy rfl rfl hb647 (yl_call Try.en38 rfl (opvs_cons rfl (opvs_cons rfl opvs_nil)) (Cal.mono (c_l_eqOpS ((i_StmtOps p_0 p_1).1) ((s_StmtOps p_0 p_1).1) (RdS.up (OwnL.rd good_Op q671) good_Op) (RdS.up q676 good_Op)) ?_))
           rintro v678 w677 ⟨rfl, hE679⟩
           have hE679z := Ex.size hE679
           refine sy rfl rfl hb647 (yl_not rfl rfl (sd rfl (yl_pick_f rfl rfl hb647 rfl (sd rfl (yl_move rfl rfl (sy rfl rfl (not_t hb360) (yl_move rfl rfl (sy rfl rfl (not_t hb360) (yl_move rfl rfl (sy rfl rfl (not_t hb360) (yl_bneq Try.un4 rfl rfl rfl (sd rfl (yl_pick_f rfl rfl (not_t hb360) rfl (SeqR.done (tn ?_)))))))))))))))
           refine CW.cond_f rfl (not_t hb361) (CW.skip (tn (CW.seq (CW.region (sd rfl (yl_assign rfl rfl (SeqR.done (tn (CW.seq ?_)))))))))
           refine CW.region (sd rfl (yl_move rfl rfl (sd rfl (yl_move rfl rfl (sd rfl (yl_call Try.en43 rfl (opvs_cons rfl (opvs_cons rfl opvs_nil)) (Cal.mono (c_l_markOpS ((i_StmtOps p_0 p_1).1) 1 (OwnL.ex good_Op q671 hE679) (by omega) (by first | omega | assumption | (simp only [IntKind.wrap_i64] at *; omega))) ?_)))))))
           rintro v682 w681 ⟨rfl, h684, hm683⟩
           have hm683z := Mut.size hm683
           have hrf685 := rf_markOpS ((i_StmtOps p_0 p_1).1) 1 (by first | omega | assumption | (simp only [IntKind.wrap_i64] at *; omega))
           refine sd rfl (yl_assign rfl rfl (SeqR.done (tn (CW.seq (CW.region (sd rfl (yl_assign rfl rfl (SeqR.done (tn (CW.seq ?_))))))))))
           refine CW.region (sd rfl (yl_move rfl rfl (sd rfl (yl_move rfl rfl ?_))))
           have hle686 := OwnL.len h684
           refine sd rfl (yl_call Try.en44 rfl (opvs_cons rfl (opvs_cons rfl opvs_nil)) (Cal.mono (Cal.args (by rw [← hle686] <;> rfl) (c_l_heldOpS ((l_markOpS ((i_StmtOps p_0 p_1).1) 1).2) 1 (RdS.fix (RdS.up (OwnL.rd good_Op h684) good_Op)) (by first | omega | assumption | (simp only [IntKind.wrap_i64] at *; omega)))) ?_))
           rintro v689 w688 ⟨rfl, hE690⟩
           have hE690z := Ex.size hE690
           have hrf691 := rf_heldOpS ((l_markOpS ((i_StmtOps p_0 p_1).1) 1).2) 1 (by first | omega | assumption | (simp only [IntKind.wrap_i64] at *; omega))
           refine sd rfl (yl_assign rfl rfl (SeqR.done (tn (CW.seq (CW.seq (CW.region (sd rfl (yl_move rfl rfl (sd rfl (yl_lss rfl rfl rfl (SeqR.done ?_)))))))))))
           refine tn (bcase (decide ((l_heldOpS ((l_markOpS ((i_StmtOps p_0 p_1).1) 1).2) 1) < 0)) (fun hb692 => ?_) (fun hb692 => ?_))
           ·have hb692p := dec_t hb692
            refine CW.cond_t rfl hb692 (CW.seq (CW.region (sd rfl (yl_assign rfl rfl (SeqR.done (tn (CW.ret (tr (rr rfl (.cons rfl .nil) ?_)))))))))
            have hM693 : (l_FnExactStmtOps p_0 p_1) = (false) := by simp only [l_FnExactStmtOps, hb25, hb40, hb360, hb361, hb493, hb622, hb647, hb692, cond_true, cond_false, loopE_done, loopE_ret]
            rw [hM693]
            have q710 := Ex.mut (Ex.mut (Ex.trans (Ex.trans (Ex.trans (Ex.trans (Below.only (Ex.trans (Ex.trans (Below.only (Ex.trans (Ex.trans (Ex.trans (Ex.trans (Ex.trans (Ex.trans (Ex.trans (Ex.refl w) hE10) hE16) hE24) hE39) hE224) hE281) hE290) hO293 (by omega)) hE310) hE319) hO322 (by omega)) hE347) hE359) hE468) hE597) hm631 (fun k hk => by simp only [InR, or_false] at hk; omega)) hm643 (fun k hk => by simp only [InR, or_false] at hk; omega)
            exact ⟨rfl, (Ex.trans (Ex.mut (Ex.trans q710 hE679) hm683 (fun k hk => by simp only [InR, or_false] at hk; omega)) hE690)⟩
           ·have hb692p := dec_f hb692
            refine CW.cond_f rfl hb692 (CW.skip (tn (CW.seq (CW.seq (CW.region (sd rfl (yl_move rfl rfl (sd rfl (yl_move rfl rfl (sd rfl (yl_neq rfl rfl rfl ?_)))))))))))
            refine SeqR.done (tn (bcase (decide ((l_heldOpS ((l_markOpS ((i_StmtOps p_0 p_1).1) 1).2) 1) = ((l_markOpS ((i_StmtOps p_0 p_1).1) 1).1))) (fun hb714 => ?_) (fun hb714 => ?_)))
            ·have hb714p := dec_t hb714
             refine CW.cond_f rfl (not_t hb714) (CW.skip (tn (CW.seq (CW.drawsI 10 (vgetI [DetI (.agg #[.string (bs (p_0.Name)), .slice A1 p_0.Cols.length c1, .slice A2 p_0.Idxs.length c2]), fun lo hi v wq => ∃ A737 c737 lo737 hi737 A738 c738 lo738 hi738, v = .agg #[.string (bs (p_0.Name)), .slice A737 p_0.Cols.length c737, .slice A738 p_0.Idxs.length c738] ∧ OwnL wq lo737 hi737 9 1 (RF e_Str) A737 p_0.Cols.length c737 p_0.Cols ∧ OwnL wq lo738 hi738 152 3 (RF e_Idx) A738 p_0.Idxs.length c738 p_0.Idxs ∧ (lo ≤ lo737 ∧ lo737 ≤ hi737 ∧ hi737 ≤ hi) ∧ (lo ≤ lo738 ∧ lo738 ≤ hi738 ∧ hi738 ≤ hi) ∧ (hi737 ≤ lo738 ∨ hi738 ≤ lo737), DetI (.agg #[.int .i64 (p_1.Kind), .int .i64 (p_1.Act.Kind), .slice A3 p_1.Act.Old.Vals.length c3, .slice A4 p_1.Act.New.Vals.length c4, .string (bs (p_1.Idx)), .string (bs (p_1.Low)), .string (bs (p_1.High))]), fun lo hi v wq => ∃ A758 c758 lo758 hi758 A759 c759 lo759 hi759, v = .agg #[.int .i64 (p_1.Kind), .int .i64 (p_1.Act.Kind), .slice A758 p_1.Act.Old.Vals.length c758, .slice A759 p_1.Act.New.Vals.length c759, .string (bs (p_1.Idx)), .string (bs (p_1.Low)), .string (bs (p_1.High))] ∧ OwnL wq lo758 hi758 9 1 (RF e_Str) A758 p_1.Act.Old.Vals.length c758 p_1.Act.Old.Vals ∧ OwnL wq lo759 hi759 9 1 (RF e_Str) A759 p_1.Act.New.Vals.length c759 p_1.Act.New.Vals ∧ (lo ≤ lo758 ∧ lo758 ≤ hi758 ∧ hi758 ≤ hi) ∧ (lo ≤ lo759 ∧ lo759 ≤ hi759 ∧ hi759 ≤ hi) ∧ (hi758 ≤ lo759 ∨ hi759 ≤ lo758), fun lo hi v wq => ∃ A761 c761 lo761 hi761, v = .tuple #[.slice A761 (((i_StmtOps p_0 p_1).1).length) c761, .bool ((i_StmtOps p_0 p_1).2)] ∧ OwnL wq lo761 hi761 163 4 (RF e_Op) A761 (((i_StmtOps p_0 p_1).1).length) c761 ((i_StmtOps p_0 p_1).1) ∧ (lo ≤ lo761 ∧ lo761 ≤ hi761 ∧ hi761 ≤ hi), fun lo hi v wq => ∃ A761 c761, v = .tuple #[.slice A761 (((i_StmtOps p_0 p_1).1).length) c761, .bool ((i_StmtOps p_0 p_1).2)] ∧ RdS wq (Ge w688.heap.size) (RF e_Op) 4 A761 ((i_StmtOps p_0 p_1).1).length c761 ((i_StmtOps p_0 p_1).1), fun lo hi v wq => ∃ A761 c761, v = .slice A761 (((i_StmtOps p_0 p_1).1).length) c761 ∧ RdS wq (Ge w688.heap.size) (RF e_Op) 4 A761 ((i_StmtOps p_0 p_1).1).length c761 ((i_StmtOps p_0 p_1).1), DetI (.bool ((i_StmtOps p_0 p_1).2)), fun lo hi v wq => ∃ A761 c761, v = .slice A761 (((i_StmtOps p_0 p_1).1).length) c761 ∧ RdS wq (Ge w688.heap.size) (RF e_Op) 4 A761 ((i_StmtOps p_0 p_1).1).length c761 ((i_StmtOps p_0 p_1).1), DetI (.bool ((i_StmtOps p_0 p_1).2))]) Try.follows rfl rfl rfl rfl rfl rfl (vgetI_stable ⟨StableI.det _, (fun _ _ _ _ _ ⟨A737, c737, lo737, hi737, A738, c738, lo738, hi738, hv, h737, h738, hr0, hr1, hr2⟩ e => ⟨A737, c737, lo737, hi737, A738, c738, lo738, hi738, hv, OwnL.ex good_Str h737 e, OwnL.ex good_Idx h738 e, hr0, hr1, hr2⟩), StableI.det _, (fun _ _ _ _ _ ⟨A758, c758, lo758, hi758, A759, c759, lo759, hi759, hv, h758, h759, hr0, hr1, hr2⟩ e => ⟨A758, c758, lo758, hi758, A759, c759, lo759, hi759, hv, OwnL.ex good_Str h758 e, OwnL.ex good_Str h759 e, hr0, hr1, hr2⟩), (fun _ _ _ _ _ ⟨A761, c761, lo761, hi761, hv, h761, hr0⟩ e => ⟨A761, c761, lo761, hi761, hv, OwnL.ex good_Op h761 e, hr0⟩), (fun _ _ _ _ _ ⟨A761, c761, hv, h762⟩ e => ⟨A761, c761, hv, RdS.ex good_Op h762 e⟩), (fun _ _ _ _ _ ⟨A761, c761, hv, h763⟩ e => ⟨A761, c761, hv, RdS.ex good_Op h763 e⟩), StableI.det _, (fun _ _ _ _ _ ⟨A761, c761, hv, h764⟩ e => ⟨A761, c761, hv, RdS.ex good_Op h764 e⟩), StableI.det _, trivial⟩) ⟨?_, ?_, ?_, ?_, ?_, ?_, ?_, ?_, ?_, ?_, trivial⟩ ?_))))
             ·intro L765 w766 hi767
              have hE768 := hi767.ex
              have hE768z := Ex.size hE768
              exact os rfl ((yl_loadN (cs := [.string (bs (p_0.Name)), .slice A1 p_0.Cols.length c1, .slice A2 p_0.Idxs.length c2]) Try.ty55 rfl (hi767.old 2 _ rfl rfl) ((Box.ex (Box.ex (Box.mut (Box.ex (Box.mut (Box.mut (Box.ex (Box.ex q371 hE468) hE597) hm631 (fun k hk => by simp only [InR, or_false] at hk; omega)) hm643 (fun k hk => by simp only [InR, or_false] at hk; omega)) hE679) hm683 (fun k hk => by simp only [InR, or_false] at hk; omega)) hE690) hE768).cells (n := 3) rfl) rfl kI))
             ·intro L771 w772 hi773
              have hE774 := hi773.ex
              have hE774z := Ex.size hE774
              refine OpR.op' rfl (yl_call Try.en35 rfl (opvs_cons (hi773.dt 0 95 rfl rfl rfl) opvs_nil) (Cal.mono (c_l_toTable p_0 (RdS.up (RdS.ex good_Str (RdS.ex good_Str (RdS.mut good_Str (RdS.ex good_Str (RdS.mut good_Str (RdS.mut good_Str (RdS.ex good_Str (RdS.ex good_Str q379 hE468) hE597) hm631 (fun k hk => by simp only [InR, or_false, Iv, Ge] at hk ⊢; omega)) hm643 (fun k hk => by simp only [InR, or_false, Iv, Ge] at hk ⊢; omega)) hE679) hm683 (fun k hk => by simp only [InR, or_false, Iv, Ge] at hk ⊢; omega)) hE690) hE774) good_Str) (RdS.up (RdS.ex good_Idx (RdS.ex good_Idx (RdS.mut good_Idx (RdS.ex good_Idx (RdS.mut good_Idx (RdS.mut good_Idx (RdS.ex good_Idx (RdS.ex good_Idx q387 hE468) hE597) hm631 (fun k hk => by simp only [InR, or_false, Iv, Ge] at hk ⊢; omega)) hm643 (fun k hk => by simp only [InR, or_false, Iv, Ge] at hk ⊢; omega)) hE679) hm683 (fun k hk => by simp only [InR, or_false, Iv, Ge] at hk ⊢; omega)) hE690) hE774) good_Idx) ((szok_Table pre0 (by decide) (dec_f hb25)).1)) ?_))
              rintro v781 w778 ⟨A779, c779, lo779, hi779, A780, c780, lo780, hi780, rfl, h779, h780, hrn783, hrn784, hrn785, hE782⟩
              exact ⟨⟨A779, c779, lo779, hi779, A780, c780, lo780, hi780, rfl, h779, h780, hrn783, hrn784, hrn785⟩, hE782⟩
             ·intro L786 w787 hi788
              have hE789 := hi788.ex
              have hE789z := Ex.size hE789
              exact os rfl ((yl_loadN (cs := [.int .i64 (p_1.Kind), .int .i64 (p_1.Act.Kind), .slice A3 p_1.Act.Old.Vals.length c3, .slice A4 p_1.Act.New.Vals.length c4, .string (bs (p_1.Idx)), .string (bs (p_1.Low)), .string (bs (p_1.High))]) Try.ty99 rfl (hi788.old 3 _ rfl rfl) ((Box.ex (Box.ex (Box.mut (Box.ex (Box.mut (Box.mut (Box.ex q502 hE597) hm631 (fun k hk => by simp only [InR, or_false] at hk; omega)) hm643 (fun k hk => by simp only [InR, or_false] at hk; omega)) hE679) hm683 (fun k hk => by simp only [InR, or_false] at hk; omega)) hE690) hE789).cells (n := 7) rfl) rfl kI))
             ·intro L792 w793 hi794
              have hE795 := hi794.ex
              have hE795z := Ex.size hE795
              refine OpR.op' rfl (yl_call Try.en64 rfl (opvs_cons (hi794.dt 2 97 rfl rfl rfl) opvs_nil) (Cal.mono (c_l_toStmt p_1 (RdS.up (RdS.ex good_Str (RdS.ex good_Str (RdS.mut good_Str (RdS.ex good_Str (RdS.mut good_Str (RdS.mut good_Str (RdS.ex good_Str q508 hE597) hm631 (fun k hk => by simp only [InR, or_false, Iv, Ge] at hk ⊢; omega)) hm643 (fun k hk => by simp only [InR, or_false, Iv, Ge] at hk ⊢; omega)) hE679) hm683 (fun k hk => by simp only [InR, or_false, Iv, Ge] at hk ⊢; omega)) hE690) hE795) good_Str) (RdS.up (RdS.ex good_Str (RdS.ex good_Str (RdS.mut good_Str (RdS.ex good_Str (RdS.mut good_Str (RdS.mut good_Str (RdS.ex good_Str q514 hE597) hm631 (fun k hk => by simp only [InR, or_false, Iv, Ge] at hk ⊢; omega)) hm643 (fun k hk => by simp only [InR, or_false, Iv, Ge] at hk ⊢; omega)) hE679) hm683 (fun k hk => by simp only [InR, or_false, Iv, Ge] at hk ⊢; omega)) hE690) hE795) good_Str) ((szok_Stmt pre1 (szok_Table pre0 (by decide) (dec_f hb25)).2 (dec_f hb40)).1)) ?_))
              rintro v802 w799 ⟨A800, c800, lo800, hi800, A801, c801, lo801, hi801, rfl, h800, h801, hrn804, hrn805, hrn806, hE803⟩
              exact ⟨⟨A800, c800, lo800, hi800, A801, c801, lo801, hi801, rfl, h800, h801, hrn804, hrn805, hrn806⟩, hE803⟩
             ·intro L807 w808 hi809
              obtain ⟨lo812, hh813, _, hx811, hr814, hr815, hr816, A737_817, c737_818, lo737_819, hi737_820, A738_821, c738_822, lo738_823, hi738_824, rfl, h825, h826, hrn827, hrn828, hrn829⟩ := hi809.dep 1 96 rfl rfl
              obtain ⟨lo831, hh832, _, hx830, hr833, hr834, hr835, A758_836, c758_837, lo758_838, hi758_839, A759_840, c759_841, lo759_842, hi759_843, rfl, h844, h845, hrn846, hrn847, hrn848⟩ := hi809.dep 3 98 rfl rfl
              refine OpR.op' rfl (yl_call Try.en65 rfl (opvs_cons hx811 (opvs_cons hx830 opvs_nil)) (Cal.mono (c_i_StmtOps p_0 p_1 (RdS.up (OwnL.rd good_Str h825) good_Str) (RdS.up (OwnL.rd good_Idx h826) good_Idx) (RdS.up (OwnL.rd good_Str h844) good_Str) (RdS.up (OwnL.rd good_Str h845) good_Str) ((szok_Table pre0 (by decide) (dec_f hb25)).1) ((szok_Stmt pre1 (szok_Table pre0 (by decide) (dec_f hb25)).2 (dec_f hb40)).1)) ?_))
              rintro v855 w853 ⟨A854, c854, lo854, hi854, rfl, h854, hrn857, hE856⟩
              exact ⟨⟨A854, c854, lo854, hi854, rfl, h854, hrn857⟩, hE856⟩
             ·intro L858 w859 hi860
              have hE861 := hi860.ex
              have hE861z := Ex.size hE861
              obtain ⟨lo863, hh864, _, hx862, hr865, hr866, hr867, A761_868, c761_869, lo761_870, hi761_871, rfl, h872, hrn873⟩ := hi860.dep 4 99 rfl rfl
              exact os rfl ((yl_move rfl hx862 ⟨fun _ _ => ⟨A761_868, c761_869, rfl, (RdS.ivG good_Op (OwnL.rd good_Op h872) (by omega))⟩, rfl⟩))
             ·intro L874 w875 hi876
              obtain ⟨lo879, hh880, _, hx878, hr881, hr882, hr883, A761_884, c761_885, rfl, h886⟩ := hi876.dep 5 94 rfl rfl
              exact os rfl ((yl_extract rfl hx878 rfl ⟨fun _ _ => ⟨A761_884, c761_885, rfl, h886⟩, rfl⟩))
             ·intro L887 w888 hi889
              obtain ⟨lo892, hh893, _, hx891, hr894, hr895, hr896, A761_897, c761_898, rfl, h899⟩ := hi889.dep 5 94 rfl rfl
              exact os rfl ((yl_extract rfl hx891 rfl kI))
             ·intro L900 w901 hi902
              obtain ⟨lo905, hh906, _, hx904, hr907, hr908, hr909, A761_910, c761_911, rfl, h912⟩ := hi902.dep 6 100 rfl rfl
              exact os rfl ((yl_assign rfl hx904 ⟨fun _ _ => ⟨A761_910, c761_911, rfl, h912⟩, rfl⟩))
             ·exact fun _ _ h => os rfl ((yl_assign rfl (h.dt 7 101 rfl rfl rfl) kI))
             ·intro fl921 fh922 L918 w919 hp920
              have hE923 := hp920.ex
              have hE923z := Ex.size hE923
              have hr929 := hp920.rng 1 rfl
              obtain ⟨_, hx928, A737_930, c737_931, lo737_932, hi737_933, A738_934, c738_935, lo738_936, hi738_937, rfl, h938, h939, hrn940, hrn941, hrn942⟩ := hp920.new 1 96 rfl rfl
              have hr944 := hp920.rng 3 rfl
              have hsp945 := hp920.sep 1 3 rfl rfl rfl
              obtain ⟨_, hx943, A758_946, c758_947, lo758_948, hi758_949, A759_950, c759_951, lo759_952, hi759_953, rfl, h954, h955, hrn956, hrn957, hrn958⟩ := hp920.new 3 98 rfl rfl
              have hr960 := hp920.rng 4 rfl
              have hsp961 := hp920.sep 1 4 rfl rfl rfl
              have hsp962 := hp920.sep 3 4 rfl rfl rfl
              obtain ⟨_, hx959, A761_963, c761_964, lo761_965, hi761_966, rfl, h967, hrn968⟩ := hp920.new 4 99 rfl rfl
              obtain ⟨_, hx969, A761_970, c761_971, rfl, h972⟩ := hp920.new 8 15 rfl rfl
              have hq973 := RdS.wideG good_Op h972 (Nat.le_refl _)
              refine SeqR.done (tn (CW.sub (Sub.cons (d := 6) (hp920.old 6 _ rfl rfl) (Sub.cons (d := 7) (hp920.old 7 _ rfl rfl) (Sub.cons (d := 10) (hp920.old 10 _ rfl rfl) (Sub.cons (d := 13) (hp920.old 13 _ rfl rfl) (Sub.cons (d := 15) hx969 (Sub.cons (d := 16) (hp920.nt 9 16 rfl rfl rfl) (Sub.nil _))))))) (CW.seq (CW.seq (CW.region (sd rfl (yl_move rfl rfl (sd rfl (yl_move rfl rfl (sd rfl (yl_call Try.en38 rfl (opvs_cons rfl (opvs_cons rfl opvs_nil)) (Cal.mono (c_l_eqOpS ((i_StmtOps p_0 p_1).1) ((s_StmtOps p_0 p_1).1) (RdS.up hq973 good_Op) (RdS.up (RdS.ex good_Op (RdS.ex good_Op (RdS.mut good_Op (RdS.ex good_Op q676 hE679) hm683 (fun k hk => by simp only [InR, or_false, Iv, Ge] at hk ⊢; omega)) hE690) hE923) good_Op)) ?_))))))))))))
              rintro v980 w979 ⟨rfl, hE981⟩
              have hE981z := Ex.size hE981
              refine sd rfl (yl_not rfl rfl (sd rfl (yl_move rfl rfl (sy rfl rfl (not_t hb360) (yl_move rfl rfl (sy rfl rfl (not_t hb360) (yl_move rfl rfl (sy rfl rfl (not_t hb360) (yl_bneq Try.un4 rfl rfl rfl (sd rfl (yl_pick_f rfl rfl (not_t hb360) rfl (SeqR.done (tn (CW.cond_f rfl (not_t hb361) ?_))))))))))))))
              refine CW.skip (tn (CW.seq (CW.region (sd rfl (yl_assign rfl rfl (SeqR.done (tn (CW.seq (CW.region ?_)))))))))
              refine sd rfl (yl_move rfl rfl (sd rfl (yl_move rfl rfl ?_)))
              have q985 := OwnL.ex good_Op (OwnL.ex good_Op (OwnL.ex good_Op h684 hE690) hE923) hE981
              have hle982 := OwnL.len q985
              refine sd rfl (yl_call Try.en44 rfl (opvs_cons rfl (opvs_cons rfl opvs_nil)) (Cal.mono (Cal.args (by rw [← hle982] <;> rfl) (c_l_heldOpS ((l_markOpS ((i_StmtOps p_0 p_1).1) 1).2) 1 (RdS.fix (RdS.up (OwnL.rd good_Op q985) good_Op)) (by first | omega | assumption | (simp only [IntKind.wrap_i64] at *; omega)))) ?_))
              rintro v988 w987 ⟨rfl, hE989⟩
              have hE989z := Ex.size hE989
              have hrf990 := rf_heldOpS ((l_markOpS ((i_StmtOps p_0 p_1).1) 1).2) 1 (by first | omega | assumption | (simp only [IntKind.wrap_i64] at *; omega))
              refine sd rfl (yl_assign rfl rfl (SeqR.done (tn (CW.seq (CW.seq (CW.region (sd rfl (yl_move rfl rfl (sd rfl (yl_lss rfl rfl rfl (SeqR.done ?_)))))))))))
              refine tn (CW.cond_f rfl hb692 (CW.skip (tn (CW.seq (CW.seq (CW.region (sd rfl (yl_move rfl rfl (sd rfl (yl_move rfl rfl ?_))))))))))
              refine sd rfl (yl_neq rfl rfl rfl (SeqR.done (tn (CW.cond_f rfl (not_t hb714) (CW.skip (tn (CW.seq (CW.region (sd rfl (yl_assign rfl rfl ?_))))))))))
              refine SeqR.done (tn (CW.ret (rr rfl (.cons rfl .nil) ?_)))
              have hM991 : (l_FnExactStmtOps p_0 p_1) = (true) := by simp only [l_FnExactStmtOps, hb25, hb40, hb360, hb361, hb493, hb622, hb647, hb692, hb714, cond_true, cond_false, loopE_done, loopE_ret]
              rw [hM991]
              have q1008 := Ex.mut (Ex.mut (Ex.trans (Ex.trans (Ex.trans (Ex.trans (Below.only (Ex.trans (Ex.trans (Below.only (Ex.trans (Ex.trans (Ex.trans (Ex.trans (Ex.trans (Ex.trans (Ex.trans (Ex.refl w) hE10) hE16) hE24) hE39) hE224) hE281) hE290) hO293 (by omega)) hE310) hE319) hO322 (by omega)) hE347) hE359) hE468) hE597) hm631 (fun k hk => by simp only [InR, or_false] at hk; omega)) hm643 (fun k hk => by simp only [InR, or_false] at hk; omega)
              exact ⟨rfl, (Ex.trans (Ex.trans (Ex.trans (Ex.trans (Ex.mut (Ex.trans q1008 hE679) hm683 (fun k hk => by simp only [InR, or_false] at hk; omega)) hE690) hE923) hE981) hE989)⟩
            ·have hb714p := dec_f hb714
             refine CW.cond_t rfl (not_f hb714) (CW.seq (CW.region (sd rfl (yl_assign rfl rfl (SeqR.done (tn (CW.ret (tr (rr rfl (.cons rfl .nil) ?_)))))))))
             have hM1015 : (l_FnExactStmtOps p_0 p_1) = (false) := by simp only [l_FnExactStmtOps, hb25, hb40, hb360, hb361, hb493, hb622, hb647, hb692, hb714, cond_true, cond_false, loopE_done, loopE_ret]
             rw [hM1015]
             have q1032 := Ex.mut (Ex.mut (Ex.trans (Ex.trans (Ex.trans (Ex.trans (Below.only (Ex.trans (Ex.trans (Below.only (Ex.trans (Ex.trans (Ex.trans (Ex.trans (Ex.trans (Ex.trans (Ex.trans (Ex.refl w) hE10) hE16) hE24) hE39) hE224) hE281) hE290) hO293 (by omega)) hE310) hE319) hO322 (by omega)) hE347) hE359) hE468) hE597) hm631 (fun k hk => by simp only [InR, or_false] at hk; omega)) hm643 (fun k hk => by simp only [InR, or_false] at hk; omega)
             exact ⟨rfl, (Ex.trans (Ex.mut (Ex.trans q1032 hE679) hm683 (fun k hk => by simp only [InR, or_false] at hk; omega)) hE690)⟩
         ·refine CW.cond_t rfl (not_f hb622) (CW.seq (CW.region (sd rfl (yl_assign rfl rfl (SeqR.done (tn (CW.ret (tr (rr rfl (.cons rfl .nil) ?_)))))))))
          have hM1036 : (l_FnExactStmtOps p_0 p_1) = (false) := by simp only [l_FnExactStmtOps, hb25, hb40, hb360, hb361, hb493, hb622, cond_true, cond_false, loopE_done, loopE_ret]
          rw [hM1036]
          exact ⟨rfl, (Ex.trans (Ex.trans (Ex.trans (Ex.trans (Below.only (Ex.trans (Ex.trans (Below.only (Ex.trans (Ex.trans (Ex.trans (Ex.trans (Ex.trans (Ex.trans (Ex.trans (Ex.refl w) hE10) hE16) hE24) hE39) hE224) hE281) hE290) hO293 (by omega)) hE310) hE319) hO322 (by omega)) hE347) hE359) hE468) hE597)⟩
       ·refine CW.cond_t rfl (not_f hb493) (CW.seq (CW.region (sd rfl (yl_assign rfl rfl (SeqR.done (tn (CW.ret (tr (rr rfl (.cons rfl .nil) ?_)))))))))
        have hM1052 : (l_FnExactStmtOps p_0 p_1) = (false) := by simp only [l_FnExactStmtOps, hb25, hb40, hb360, hb361, hb493, cond_true, cond_false, loopE_done, loopE_ret]
        rw [hM1052]
        exact ⟨rfl, (Ex.trans (Ex.trans (Ex.trans (Below.only (Ex.trans (Ex.trans (Below.only (Ex.trans (Ex.trans (Ex.trans (Ex.trans (Ex.trans (Ex.trans (Ex.trans (Ex.refl w) hE10) hE16) hE24) hE39) hE224) hE281) hE290) hO293 (by omega)) hE310) hE319) hO322 (by omega)) hE347) hE359) hE468)⟩
     ·refine CW.cond_t rfl (not_f hb361) (CW.seq (CW.region (sd rfl (yl_assign rfl rfl (SeqR.done (tn (CW.ret (tr (rr rfl (.cons rfl .nil) ?_)))))))))
      have hM1067 : (l_FnExactStmtOps p_0 p_1) = (false) := by simp only [l_FnExactStmtOps, hb25, hb40, hb360, hb361, cond_true, cond_false, loopE_done, loopE_ret]
      rw [hM1067]
      exact ⟨rfl, (Ex.trans (Ex.trans (Below.only (Ex.trans (Ex.trans (Below.only (Ex.trans (Ex.trans (Ex.trans (Ex.trans (Ex.trans (Ex.trans (Ex.trans (Ex.refl w) hE10) hE16) hE24) hE39) hE224) hE281) hE290) hO293 (by omega)) hE310) hE319) hO322 (by omega)) hE347) hE359)⟩
    ·refine sz rfl rfl (not_f hb360) (sz rfl rfl (not_f hb360) (sz rfl rfl (not_f hb360) (sd rfl (yl_pick_t rfl rfl (not_f hb360) rfl (SeqR.done (tn (CW.cond_t rfl rfl (CW.seq (CW.region ?_)))))))))
     refine sd rfl (yl_assign rfl rfl (SeqR.done (tn (CW.ret (tr (rr rfl (.cons rfl .nil) ?_))))))
     have hM1081 : (l_FnExactStmtOps p_0 p_1) = (false) := by simp only [l_FnExactStmtOps, hb25, hb40, hb360, cond_true, cond_false, loopE_done, loopE_ret]
     rw [hM1081]
     exact ⟨rfl, (Ex.trans (Ex.trans (Below.only (Ex.trans (Ex.trans (Below.only (Ex.trans (Ex.trans (Ex.trans (Ex.trans (Ex.trans (Ex.trans (Ex.trans (Ex.refl w) hE10) hE16) hE24) hE39) hE224) hE281) hE290) hO293 (by omega)) hE310) hE319) hO322 (by omega)) hE347) hE359)⟩
end Go.Proofs.Ytjeafbkejeallaa
