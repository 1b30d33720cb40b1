/- Fill Ops: what each call returns, part 2. -/
import Derived.Test.YtjeafbkejeallaaFillOpsC1
set_option linter.unusedVariables false
set_option linter.unusedSimpArgs false
namespace Go.Proofs.Ytjeafbkejeallaa
open Go.RowKit Go.X
set_option maxRecDepth 100000 in
set_option maxHeartbeats 2000000 in
theorem c_i_GoodTable {A1 : Option Addr} {c1 : Nat} {A2 : Option Addr} {c2 : Nat} {w : World} (p_0 : DTable) (h1 : RdS w (Iv 0 w.heap.size) (RF e_Str) 1 A1 p_0.Cols.length c1 p_0.Cols) (h2 : RdS w (Iv 0 w.heap.size) (RF e_Idx) 3 A2 p_0.Idxs.length c2 p_0.Idxs) (o3 : ok_Table p_0) : Cal Try.prog 166 #[.agg #[.string (bs (p_0.Name)), .slice A1 p_0.Cols.length c1, .slice A2 p_0.Idxs.length c2]] w fun v w' => v = .bool ((i_GoodTable p_0)) ∧ Ex w w' := by
 have hol4 : p_0.Name.length ≤ 1073741824 := o3.1
 have hol5 := o3.2.1.1
 have hol6 := o3.2.2.1
 refine Cal.of (vs := [.agg #[.string (bs (p_0.Name)), .slice A1 p_0.Cols.length c1, .slice A2 p_0.Idxs.length c2]]) Try.func166 rfl Try.ntmps166 rfl (CW.seq (CW.region (sd rfl (yl_box (cs := [.string (bs (p_0.Name)), .slice A1 p_0.Cols.length c1, .slice A2 p_0.Idxs.length c2]) rfl rfl rfl ?_))))
 intro b7 w8 hs9 hz10 hB11 hE12
 refine sd rfl (yl_assign rfl rfl (SeqR.done (tn (CW.seq (CW.seq (CW.region (sd rfl (yl_fieldAddr Try.fd65_0 rfl rfl (sd rfl (yl_load1 Try.ty9 rfl rfl ((hB11.cell 0).trans rfl) (sd rfl (yl_call Try.en210 rfl (opvs_cons rfl (opvs_cons rfl opvs_nil)) (Cal.mono (c_i_areLetters p_0.Name 1 o3.1) ?_)))))))))))))
 rintro v14 w13 ⟨rfl, hE15⟩
 have hE15z := Ex.size hE15
 refine sd rfl (yl_not rfl rfl (sd rfl (yl_move rfl rfl (bcase (i_areLetters p_0.Name 1) (fun hb16 => ?_) (fun hb16 => ?_)))))
 ·refine sy rfl rfl (not_t hb16) (yl_fieldAddr Try.fd65_1 rfl rfl ?_)
  have q17 := Box.ex hB11 hE15
  refine sy rfl rfl (not_t hb16) (yl_load1 Try.ty52 rfl rfl ((q17.cell 1).trans rfl) (sy rfl rfl (not_t hb16) (yl_len Try.un52 rfl rfl (sy rfl rfl (not_t hb16) (yl_call Try.en142 rfl (opvs_cons rfl (opvs_cons rfl (opvs_cons rfl opvs_nil))) (Cal.mono (c_i_within (p_0.Cols.length : Int) 2 4) ?_))))))
  rintro v19 w18 ⟨rfl, hE20⟩
  have hE20z := Ex.size hE20
  refine sy rfl rfl (not_t hb16) (yl_not rfl rfl (sd rfl (yl_pick_f rfl rfl (not_t hb16) rfl (sd rfl (yl_move rfl rfl (bcase (i_within (p_0.Cols.length : Int) 2 4) (fun hb21 => ?_) (fun hb21 => ?_)))))))
  ·have hb21p := f_within hb21
   refine sy rfl rfl (not_t hb21) (yl_fieldAddr Try.fd65_2 rfl rfl ?_)
   have q22 := Box.ex q17 hE20
   refine sy rfl rfl (not_t hb21) (yl_load1 Try.ty63 rfl rfl ((q22.cell 2).trans rfl) (sy rfl rfl (not_t hb21) (yl_len Try.un63 rfl rfl (sy rfl rfl (not_t hb21) (yl_gtr rfl rfl rfl (sd rfl (yl_pick_f rfl rfl (not_t hb21) rfl (SeqR.done (tn (bcase (decide (3 < (p_0.Idxs.length : Int))) (fun hb23 => ?_) (fun hb23 => ?_)))))))))))
   ·have hb23p := dec_t hb23
    refine CW.cond_t rfl hb23 (CW.seq (CW.region (sd rfl (yl_assign rfl rfl (SeqR.done (tn (CW.ret (tr (rr rfl (.cons rfl .nil) ?_)))))))))
    have hM24 : (i_GoodTable p_0) = (false) := by simp only [i_GoodTable, hb16, hb21, hb23, cond_true, cond_false, loopE_done, loopE_ret]
    rw [hM24]
    exact ⟨rfl, (Ex.trans (Ex.trans (Ex.trans (Ex.refl w) hE12) hE15) hE20)⟩
   ·have hb23p := dec_f hb23
    refine CW.cond_f rfl hb23 (CW.skip (tn (CW.seq (CW.seq (CW.region (sd rfl (yl_fieldAddr Try.fd65_1 rfl rfl (sd rfl (yl_load1 Try.ty52 rfl rfl ((q22.cell 1).trans rfl) (sd rfl (yl_len Try.un52 rfl rfl ?_)))))))))))
    refine sd rfl (yl_move rfl rfl (SeqR.done (tn (CW.block (CW.loop (fun m29 L30 w31 => ∃ (k28 : Nat), m29 = p_0.Cols.length - k28 ∧ k28 ≤ p_0.Cols.length ∧ w18.heap.size ≤ w31.heap.size ∧ lkp L30 1 = some (.pointer (some ⟨b7, 0, none⟩)) ∧ lkp L30 25 = some (.slice A1 p_0.Cols.length c1) ∧ lkp L30 26 = some (.int .i64 ((p_0.Cols.length : Int))) ∧ lkp L30 27 = some (.int .i64 ((k28 : Int))) ∧ Box w31 b7 65 [.string (bs (p_0.Name)), .slice A1 p_0.Cols.length c1, .slice A2 p_0.Idxs.length c2] ∧ RdS w31 (Iv 0 w.heap.size) (RF e_Str) 1 A1 p_0.Cols.length c1 p_0.Cols ∧ RdS w31 (Iv 0 w.heap.size) (RF e_Idx) 3 A2 p_0.Idxs.length c2 p_0.Idxs ∧ Ex w w31 ∧ loopM (B_i_GoodTable_0 p_0) (p_0.Cols.length - k28) k28 () = loopM (B_i_GoodTable_0 p_0) (p_0.Cols.length - 0) 0 ()) (p_0.Cols.length - 0) ?_ ?_)))))
    ·exact ⟨0, rfl, (by omega), Nat.le_refl _, rfl, rfl, rfl, rfl, q22, (RdS.ex good_Str (RdS.ex good_Str (RdS.ex good_Str h1 hE12) hE15) hE20), (RdS.ex good_Idx (RdS.ex good_Idx (RdS.ex good_Idx h2 hE12) hE15) hE20), (Ex.trans (Ex.trans (Ex.trans (Ex.refl w) hE12) hE15) hE20), rfl⟩
    ·rintro m41 L42 w43 ⟨k28, rfl, hk44, hsz46, hl47, hl48, hl49, hl50, hf51, hf52, hf53, hf54, hI45⟩
     refine CW.sub (Sub.cons hl47 (Sub.cons hl48 (Sub.cons hl49 (Sub.cons hl50 (Sub.nil _))))) ?_
     have hf51z := Box.lt hf51
     have hf54z := Ex.size hf54
     have hbg55 := RdS.big hf52
     rcases Nat.lt_or_ge k28 p_0.Cols.length with hlt56 | hlt56
     ·refine CW.seq (CW.region (sd rfl (yl_lss rfl rfl rfl (SeqR.done (tn (CW.seq (CW.cond_t rfl (lt_t hlt56) (CW.skip (tn ?_)))))))))
      refine CW.seq (CW.block (CW.seq (CW.region (sd rfl (yl_move rfl rfl ?_)))))
      obtain ⟨eb57, eo57, ec57, eA57, eS57, ebl57, el57, eR57, eC57⟩ := RdS.atD hf52 d_Str (i := k28) (by first | omega | assumption)
      obtain rfl := eR57
      have eC57 : Cells w43 eb57 (eo57 + k28 * 1) [.string (bs ((p_0.Cols.getD k28 d_Str)))] := eC57
      refine sd rfl (yl_indexAddrN Try.un52 Try.ty9 rfl rfl rfl eA57 (by first | omega | assumption | (simp only [IntKind.wrap_i64] at *; omega)) (sd rfl (yl_load1 Try.ty9 rfl rfl (eC57 0 _ rfl) (sd rfl (yl_assign rfl rfl (sd rfl (yl_assign rfl rfl (SeqR.done (tn (CW.seq (CW.region (sd rfl (yl_move rfl rfl ?_)))))))))))))
      refine sd rfl (yl_call Try.en210 rfl (opvs_cons rfl (opvs_cons rfl opvs_nil)) (Cal.mono (c_i_areLetters (p_0.Cols.getD k28 d_Str) 3 (okL.getD o3.2.1 ok_d_Str _)) ?_))
      rintro v59 w58 ⟨rfl, hE60⟩
      have hE60z := Ex.size hE60
      refine sd rfl (yl_not rfl rfl (sd rfl (yl_move rfl rfl (bcase (i_areLetters (p_0.Cols.getD k28 d_Str) 3) (fun hb61 => ?_) (fun hb61 => ?_)))))
      ·refine sy rfl rfl (not_t hb61) (yl_fieldAddr Try.fd65_1 rfl rfl ?_)
       have q62 := Box.ex hf51 hE60
       refine sy rfl rfl (not_t hb61) (yl_load1 Try.ty52 rfl rfl ((q62.cell 1).trans rfl) (sy rfl rfl (not_t hb61) (yl_move rfl rfl ?_)))
       have q63 := RdS.ex good_Str hf52 hE60
       obtain ⟨A64, c65, he68, h67⟩ := RdS.sl (RdS.drop (RdS.take q63 (k := k28) (by omega)) (k := 0) (by omega))
       have hrc69 := (q63).2.1
       refine sy rfl rfl (not_t hb61) (yl_sliceR (kl := .i64) (l := 0) (h := k28) Try.un52 Try.ty9 rfl rfl (.inl ⟨rfl, rfl⟩) (.inr ⟨_, rfl, rfl⟩) (by omega) (by omega) he68 (sy rfl rfl (not_t hb61) (yl_move rfl rfl (sy rfl rfl (not_t hb61) (yl_call Try.en211 rfl (opvs_cons rfl (opvs_cons rfl opvs_nil)) (Cal.mono (c_g_slices_Contains_string (p_0.Cols.take k28) (p_0.Cols.getD k28 d_Str) (RdS.up h67 good_Str) (okL.take o3.2.1 _) (okL.getD o3.2.1 ok_d_Str _)) ?_))))))
       rintro v71 w70 ⟨rfl, hE72⟩
       have hE72z := Ex.size hE72
       refine sd rfl (yl_pick_f rfl rfl (not_t hb61) rfl (SeqR.done (tn (bcase (g_slices_Contains_string (p_0.Cols.take k28) (p_0.Cols.getD k28 d_Str)) (fun hb73 => ?_) (fun hb73 => ?_)))))
       ·refine CW.cond_t rfl hb73 (CW.seq (CW.region (sd rfl (yl_assign rfl rfl (SeqR.done (tn (CW.ret (br (tr ?_)))))))))
        refine tr ?_
        have hB75 : B_i_GoodTable_0 p_0 k28 () = .ret false := by simp only [B_i_GoodTable_0, hb16, hb21, hb23, hb61, hb73, cond_true, cond_false, loopE_done, loopE_ret]
        have hL74 : loopM (B_i_GoodTable_0 p_0) (p_0.Cols.length - 0) 0 () = .ret false := hI45.symm.trans (loopM.ret hlt56 hB75)
        refine br (tr (rr rfl (.cons rfl .nil) ?_))
        have hM76 : (i_GoodTable p_0) = (false) := by simp only [i_GoodTable, hb16, hb21, hb23, hb61, hb73, hL74, cond_true, cond_false, loopE_done, loopE_ret]
        rw [hM76]
        exact ⟨rfl, (Ex.trans (Ex.trans hf54 hE60) hE72)⟩
       ·refine CW.cond_f rfl hb73 (CW.skip (bn (tn (CW.region (sd rfl (yl_inc rfl rfl rfl (by omega) (sd rfl (yl_move rfl rfl (SeqR.done (tn ?_))))))))))
        have hB79 : B_i_GoodTable_0 p_0 k28 () = .cont () := by simp only [B_i_GoodTable_0, hb16, hb21, hb23, hb61, hb73, cond_true, cond_false, loopE_done, loopE_ret]
        exact ⟨p_0.Cols.length - (k28 + 1), by omega, k28 + 1, rfl, hlt56, (by omega), rfl, rfl, rfl, rfl, (Box.ex q62 hE72), (RdS.ex good_Str q63 hE72), (RdS.ex good_Idx (RdS.ex good_Idx hf53 hE60) hE72), (Ex.trans (Ex.trans hf54 hE60) hE72), (loopM.cont hlt56 hB79).symm.trans hI45⟩
      ·refine sz rfl rfl (not_f hb61) (sz rfl rfl (not_f hb61) (sz rfl rfl (not_f hb61) (sz rfl rfl (not_f hb61) (sz rfl rfl (not_f hb61) (sz rfl rfl (not_f hb61) (sd rfl (yl_pick_t rfl rfl (not_f hb61) rfl (SeqR.done (tn ?_)))))))))
       refine CW.cond_t rfl rfl (CW.seq (CW.region (sd rfl (yl_assign rfl rfl (SeqR.done (tn (CW.ret (br (tr ?_)))))))))
       refine tr ?_
       have hB87 : B_i_GoodTable_0 p_0 k28 () = .ret false := by simp only [B_i_GoodTable_0, hb16, hb21, hb23, hb61, cond_true, cond_false, loopE_done, loopE_ret]
       have hL86 : loopM (B_i_GoodTable_0 p_0) (p_0.Cols.length - 0) 0 () = .ret false := hI45.symm.trans (loopM.ret hlt56 hB87)
       refine br (tr (rr rfl (.cons rfl .nil) ?_))
       have hM88 : (i_GoodTable p_0) = (false) := by simp only [i_GoodTable, hb16, hb21, hb23, hb61, hL86, cond_true, cond_false, loopE_done, loopE_ret]
       rw [hM88]
       exact ⟨rfl, (Ex.trans hf54 hE60)⟩
     ·refine CW.seq (CW.region (sd rfl (yl_lss rfl rfl rfl (SeqR.done (tn (CW.seq (CW.cond_f rfl (lt_f hlt56) (CW.exit (tx ?_)))))))))
      refine tx ?_
      have hL90 : loopM (B_i_GoodTable_0 p_0) (p_0.Cols.length - 0) 0 () = .done () := hI45.symm.trans (loopM.stop hlt56)
      refine bx (tn (CW.seq (CW.seq (CW.region (sd rfl (yl_fieldAddr Try.fd65_2 rfl rfl (sd rfl (yl_load1 Try.ty63 rfl rfl ((hf51.cell 2).trans rfl) (sd rfl (yl_len Try.un63 rfl rfl (sd rfl (yl_move rfl rfl ?_))))))))))))
      refine SeqR.done (tn (CW.block (CW.loop (fun m129 L130 w131 => ∃ (k91 : Nat), m129 = p_0.Idxs.length - k91 ∧ k91 ≤ p_0.Idxs.length ∧ w43.heap.size ≤ w131.heap.size ∧ lkp L130 1 = some (.pointer (some ⟨b7, 0, none⟩)) ∧ lkp L130 45 = some (.slice A2 p_0.Idxs.length c2) ∧ lkp L130 46 = some (.int .i64 ((p_0.Idxs.length : Int))) ∧ lkp L130 47 = some (.int .i64 ((k91 : Int))) ∧ Box w131 b7 65 [.string (bs (p_0.Name)), .slice A1 p_0.Cols.length c1, .slice A2 p_0.Idxs.length c2] ∧ RdS w131 (Iv 0 w.heap.size) (RF e_Str) 1 A1 p_0.Cols.length c1 p_0.Cols ∧ RdS w131 (Iv 0 w.heap.size) (RF e_Idx) 3 A2 p_0.Idxs.length c2 p_0.Idxs ∧ Ex w w131 ∧ loopM (B_i_GoodTable_1 p_0) (p_0.Idxs.length - k91) k91 () = loopM (B_i_GoodTable_1 p_0) (p_0.Idxs.length - 0) 0 ()) (p_0.Idxs.length - 0) ?_ ?_)))
      ·exact ⟨0, rfl, (by omega), Nat.le_refl _, rfl, rfl, rfl, rfl, hf51, hf52, hf53, hf54, rfl⟩
      ·rintro m132 L133 w134 ⟨k91, rfl, hk135, hsz137, hl138, hl139, hl140, hl141, hf142, hf143, hf144, hf145, hI136⟩
       refine CW.sub (Sub.cons hl138 (Sub.cons hl139 (Sub.cons hl140 (Sub.cons hl141 (Sub.nil _))))) ?_
       have hf142z := Box.lt hf142
       have hf145z := Ex.size hf145
       have hbg146 := RdS.big hf144
       rcases Nat.lt_or_ge k91 p_0.Idxs.length with hlt147 | hlt147
       ·refine CW.seq (CW.region (sd rfl (yl_lss rfl rfl rfl (SeqR.done (tn (CW.seq (CW.cond_t rfl (lt_t hlt147) (CW.skip (tn ?_)))))))))
        refine CW.seq (CW.block (CW.seq (CW.region (sd rfl (yl_move rfl rfl ?_)))))
        obtain ⟨eb148, eo148, ec148, eA148, eS148, ebl148, el148, eR148, eC148⟩ := RdS.atD hf144 d_Idx (i := k91) (by first | omega | assumption)
        obtain rfl := eR148
        have eC148 : Cells w134 eb148 (eo148 + k91 * 3) [.string (bs ((p_0.Idxs.getD k91 d_Idx).Name)), .int .i64 ((p_0.Idxs.getD k91 d_Idx).Col), .int .i64 ((p_0.Idxs.getD k91 d_Idx).Stage)] := eC148
        refine sd rfl (yl_indexAddrN Try.un63 Try.ty152 rfl rfl rfl eA148 (by first | omega | assumption | (simp only [IntKind.wrap_i64] at *; omega)) (sd rfl (yl_loadN (cs := [.string (bs ((p_0.Idxs.getD k91 d_Idx).Name)), .int .i64 ((p_0.Idxs.getD k91 d_Idx).Col), .int .i64 ((p_0.Idxs.getD k91 d_Idx).Stage)]) Try.ty152 rfl rfl eC148 rfl (sd rfl (yl_alloc Try.ty152 (cs := [.string (bs (([] : Str))), .int .i64 (0), .int .i64 (0)]) rfl rfl ?_)))))
        intro b149 w150 hs151 hz152 hB153 hE154
        refine sd rfl (yl_assign rfl rfl (SeqR.u rfl rfl (yl_store (vs := [.string (bs ((p_0.Idxs.getD k91 d_Idx).Name)), .int .i64 ((p_0.Idxs.getD k91 d_Idx).Col), .int .i64 ((p_0.Idxs.getD k91 d_Idx).Stage)]) Try.ty152 rfl rfl rfl rfl rfl rfl hB153 (Nat.le_of_ble_eq_true rfl) ?_)))
        intro w155 hB156 hO157
        have hB156 : Box w155 b149 152 [.string (bs ((p_0.Idxs.getD k91 d_Idx).Name)), .int .i64 ((p_0.Idxs.getD k91 d_Idx).Col), .int .i64 ((p_0.Idxs.getD k91 d_Idx).Stage)] := hB156
        have hO157z := hO157.size
        refine SeqR.done (tn (CW.seq (bcase (i_areLetters ((p_0.Idxs.getD k91 d_Idx).Name) 1) (fun hb159 => ?_) (fun hb159 => ?_))))
        ·refine bcase (i_within ((p_0.Idxs.getD k91 d_Idx).Col) 1 (IntKind.wrap .i64 ((p_0.Cols.length : Int) - 1))) (fun hb164 => ?_) (fun hb164 => ?_)
         ·have hb164p := f_within hb164
          refine bcase (i_isStage ((p_0.Idxs.getD k91 d_Idx).Stage)) (fun hb170 => ?_) (fun hb170 => ?_)
          ·refine bcase (decide (0 < (k91 : Int))) (fun hb176 => ?_) (fun hb176 => ?_)
           ·have hb176p := dec_t hb176
            have q179 := Box.only (Box.ex hf142 hE154) hO157 (by omega)
            have q183 := RdS.only good_Idx (RdS.ex good_Idx hf144 hE154) hO157 (by simp only [Iv]; omega)
            obtain ⟨eb184, eo184, ec184, eA184, eS184, ebl184, el184, eR184, eC184⟩ := RdS.atD q183 d_Idx (i := (IntKind.wrap .i64 ((k91 : Int) - 1)).toNat) (by first | omega | assumption | (simp only [IntKind.wrap_i64] at *; omega))
            obtain rfl := eR184
            have eC184 : Cells w155 eb184 (eo184 + ((IntKind.wrap .i64 ((k91 : Int) - 1)).toNat) * 3) [.string (bs ((p_0.Idxs.getD ((IntKind.wrap .i64 ((k91 : Int) - 1)).toNat) d_Idx).Name)), .int .i64 ((p_0.Idxs.getD ((IntKind.wrap .i64 ((k91 : Int) - 1)).toNat) d_Idx).Col), .int .i64 ((p_0.Idxs.getD ((IntKind.wrap .i64 ((k91 : Int) - 1)).toNat) d_Idx).Stage)] := eC184
            refine CW.drawsI 36 (vgetI [DetI (.pointer (some ⟨b149, 0 + 0, none⟩)), DetI (.string (bs ((p_0.Idxs.getD k91 d_Idx).Name))), DetI (.bool ((i_areLetters ((p_0.Idxs.getD k91 d_Idx).Name) 1))), DetI (.bool (!(i_areLetters ((p_0.Idxs.getD k91 d_Idx).Name) 1))), DetI (.bool (!(i_areLetters ((p_0.Idxs.getD k91 d_Idx).Name) 1))), DetI (.pointer (some ⟨b149, 0 + 1, none⟩)), DetI (.int .i64 ((p_0.Idxs.getD k91 d_Idx).Col)), DetI (.pointer (some ⟨b7, 0 + 1, none⟩)), DetI (.slice A1 p_0.Cols.length c1), DetI (.int .i64 ((p_0.Cols.length : Int))), DetI (.int .i64 (IntKind.wrap .i64 ((p_0.Cols.length : Int) - 1))), DetI (.bool ((i_within ((p_0.Idxs.getD k91 d_Idx).Col) 1 (IntKind.wrap .i64 ((p_0.Cols.length : Int) - 1))))), DetI (.bool (!(i_within ((p_0.Idxs.getD k91 d_Idx).Col) 1 (IntKind.wrap .i64 ((p_0.Cols.length : Int) - 1))))), DetI (.bool (!(i_within ((p_0.Idxs.getD k91 d_Idx).Col) 1 (IntKind.wrap .i64 ((p_0.Cols.length : Int) - 1))))), DetI (.bool (!(i_within ((p_0.Idxs.getD k91 d_Idx).Col) 1 (IntKind.wrap .i64 ((p_0.Cols.length : Int) - 1))))), DetI (.pointer (some ⟨b149, 0 + 2, none⟩)), DetI (.int .i64 ((p_0.Idxs.getD k91 d_Idx).Stage)), DetI (.bool ((i_isStage ((p_0.Idxs.getD k91 d_Idx).Stage)))), DetI (.bool (!(i_isStage ((p_0.Idxs.getD k91 d_Idx).Stage)))), DetI (.bool (!(i_isStage ((p_0.Idxs.getD k91 d_Idx).Stage)))), DetI (.bool (!(i_isStage ((p_0.Idxs.getD k91 d_Idx).Stage)))), DetI (.int .i64 ((k91 : Int))), DetI (.bool (decide (0 < (k91 : Int)))), DetI (.bool (decide (0 < (k91 : Int)))), DetI (.pointer (some ⟨b149, 0 + 0, none⟩)), DetI (.string (bs ((p_0.Idxs.getD k91 d_Idx).Name))), DetI (.pointer (some ⟨b7, 0 + 2, none⟩)), DetI (.slice A2 p_0.Idxs.length c2), DetI (.int .i64 ((k91 : Int))), DetI (.int .i64 (IntKind.wrap .i64 ((k91 : Int) - 1))), DetI (.pointer (some ⟨eb184, eo184 + ((IntKind.wrap .i64 ((k91 : Int) - 1)).toNat) * 3, none⟩)), DetI (.pointer (some ⟨eb184, eo184 + ((IntKind.wrap .i64 ((k91 : Int) - 1)).toNat) * 3 + 0, none⟩)), DetI (.string (bs ((p_0.Idxs.getD ((IntKind.wrap .i64 ((k91 : Int) - 1)).toNat) d_Idx).Name))), DetI (.bool (sLe ((p_0.Idxs.getD k91 d_Idx).Name) ((p_0.Idxs.getD ((IntKind.wrap .i64 ((k91 : Int) - 1)).toNat) d_Idx).Name))), DetI (.bool (sLe ((p_0.Idxs.getD k91 d_Idx).Name) ((p_0.Idxs.getD ((IntKind.wrap .i64 ((k91 : Int) - 1)).toNat) d_Idx).Name))), DetI (.bool (sLe ((p_0.Idxs.getD k91 d_Idx).Name) ((p_0.Idxs.getD ((IntKind.wrap .i64 ((k91 : Int) - 1)).toNat) d_Idx).Name)))]) Try.follows rfl rfl rfl rfl rfl rfl (vgetI_stable ⟨StableI.det _, StableI.det _, StableI.det _, StableI.det _, StableI.det _, StableI.det _, StableI.det _, StableI.det _, StableI.det _, StableI.det _, StableI.det _, StableI.det _, StableI.det _, StableI.det _, StableI.det _, StableI.det _, StableI.det _, StableI.det _, StableI.det _, StableI.det _, StableI.det _, StableI.det _, StableI.det _, StableI.det _, StableI.det _, StableI.det _, StableI.det _, StableI.det _, StableI.det _, StableI.det _, StableI.det _, StableI.det _, StableI.det _, StableI.det _, StableI.det _, StableI.det _, trivial⟩) ⟨?_, ?_, ?_, ?_, ?_, ?_, ?_, ?_, ?_, ?_, ?_, ?_, ?_, ?_, ?_, ?_, ?_, ?_, ?_, ?_, ?_, ?_, ?_, ?_, ?_, ?_, ?_, ?_, ?_, ?_, ?_, ?_, ?_, ?_, ?_, ?_, trivial⟩ ?_
            ·exact fun _ _ h => os rfl ((yl_fieldAddr Try.fd152_0 rfl (h.old 6 _ rfl rfl) kI))
            ·exact fun _ _ h => os rfl ((yl_load1 Try.ty9 rfl (h.dt 0 52 rfl rfl rfl) (((Box.ex hB156 h.ex).cell 0).trans rfl) kI))
            ·intro L196 w197 hi198
             refine OpR.op' rfl (yl_call Try.en210 rfl (opvs_cons (hi198.dt 1 53 rfl rfl rfl) (opvs_cons rfl opvs_nil)) (Cal.mono (c_i_areLetters ((p_0.Idxs.getD k91 d_Idx).Name) 1 (okL.getD o3.2.2 ok_d_Idx _)) ?_))
             rintro v202 w201 ⟨rfl, hE203⟩
             exact ⟨rfl, hE203⟩
            ·exact fun _ _ h => os rfl ((yl_not rfl (h.dt 2 54 rfl rfl rfl) kI))
            ·exact fun _ _ h => os rfl ((yl_move rfl (h.dt 3 55 rfl rfl rfl) kI))
            ·exact fun _ _ h => OpR.want rfl rfl (h.dt 4 56 rfl rfl rfl) (not_t hb159) (Yl.sameI (yl_fieldAddr Try.fd152_1 rfl (h.old 6 _ rfl rfl) kI))
            ·exact fun _ _ h => OpR.want rfl rfl (h.dt 4 56 rfl rfl rfl) (not_t hb159) (Yl.sameI (yl_load1 Try.ty3 rfl (h.dt 5 57 rfl rfl rfl) (((Box.ex hB156 h.ex).cell 1).trans rfl) kI))
            ·exact fun _ _ h => OpR.want rfl rfl (h.dt 4 56 rfl rfl rfl) (not_t hb159) (Yl.sameI (yl_fieldAddr Try.fd65_1 rfl (h.old 1 _ rfl rfl) kI))
            ·exact fun _ _ h => OpR.want rfl rfl (h.dt 4 56 rfl rfl rfl) (not_t hb159) (Yl.sameI (yl_load1 Try.ty52 rfl (h.dt 7 59 rfl rfl rfl) (((Box.ex q179 h.ex).cell 1).trans rfl) kI))
            ·exact fun _ _ h => OpR.want rfl rfl (h.dt 4 56 rfl rfl rfl) (not_t hb159) (Yl.sameI (yl_len Try.un52 rfl (h.dt 8 60 rfl rfl rfl) kI))
            ·exact fun _ _ h => OpR.want rfl rfl (h.dt 4 56 rfl rfl rfl) (not_t hb159) (Yl.sameI (yl_sub rfl (h.dt 9 61 rfl rfl rfl) rfl kI))
            ·intro L252 w253 hi254
             refine OpR.want rfl rfl (hi254.dt 4 56 rfl rfl rfl) (not_t hb159) (yl_call Try.en142 rfl (opvs_cons (hi254.dt 6 58 rfl rfl rfl) (opvs_cons rfl (opvs_cons (hi254.dt 10 62 rfl rfl rfl) opvs_nil))) (Cal.mono (c_i_within ((p_0.Idxs.getD k91 d_Idx).Col) 1 (IntKind.wrap .i64 ((p_0.Cols.length : Int) - 1))) ?_))
             rintro v260 w259 ⟨rfl, hE261⟩
             exact ⟨rfl, hE261⟩
            ·exact fun _ _ h => OpR.want rfl rfl (h.dt 4 56 rfl rfl rfl) (not_t hb159) (Yl.sameI (yl_not rfl (h.dt 11 63 rfl rfl rfl) kI))
            ·exact fun _ _ h => os rfl ((yl_pick_f rfl (h.dt 4 56 rfl rfl rfl) (not_t hb159) (h.dt 12 64 rfl rfl rfl) kI))
            ·exact fun _ _ h => os rfl ((yl_move rfl (h.dt 13 65 rfl rfl rfl) kI))
            ·exact fun _ _ h => OpR.want rfl rfl (h.dt 14 66 rfl rfl rfl) (not_t hb164) (Yl.sameI (yl_fieldAddr Try.fd152_2 rfl (h.old 6 _ rfl rfl) kI))
            ·exact fun _ _ h => OpR.want rfl rfl (h.dt 14 66 rfl rfl rfl) (not_t hb164) (Yl.sameI (yl_load1 Try.ty3 rfl (h.dt 15 67 rfl rfl rfl) (((Box.ex hB156 h.ex).cell 2).trans rfl) kI))
            ·intro L292 w293 hi294
             refine OpR.want rfl rfl (hi294.dt 14 66 rfl rfl rfl) (not_t hb164) (yl_call Try.en212 rfl (opvs_cons (hi294.dt 16 68 rfl rfl rfl) opvs_nil) (Cal.mono (c_i_isStage ((p_0.Idxs.getD k91 d_Idx).Stage)) ?_))
             rintro v299 w298 ⟨rfl, hE300⟩
             exact ⟨rfl, hE300⟩
            ·exact fun _ _ h => OpR.want rfl rfl (h.dt 14 66 rfl rfl rfl) (not_t hb164) (Yl.sameI (yl_not rfl (h.dt 17 69 rfl rfl rfl) kI))
            ·exact fun _ _ h => os rfl ((yl_pick_f rfl (h.dt 14 66 rfl rfl rfl) (not_t hb164) (h.dt 18 70 rfl rfl rfl) kI))
            ·exact fun _ _ h => os rfl ((yl_move rfl (h.dt 19 71 rfl rfl rfl) kI))
            ·exact fun _ _ h => OpR.want rfl rfl (h.dt 20 72 rfl rfl rfl) (not_t hb170) (Yl.sameI (yl_move rfl (h.old 5 _ rfl rfl) kI))
            ·exact fun _ _ h => OpR.want rfl rfl (h.dt 20 72 rfl rfl rfl) (not_t hb170) (Yl.sameI (yl_gtr rfl (h.dt 21 73 rfl rfl rfl) rfl kI))
            ·exact fun _ _ h => OpR.want rfl rfl (h.dt 20 72 rfl rfl rfl) (not_t hb170) (Yl.sameI (yl_move rfl (h.dt 22 74 rfl rfl rfl) kI))
            ·exact fun _ _ h => OpR.want rfl rfl (h.dt 23 75 rfl rfl rfl) hb176 (Yl.sameI (yl_fieldAddr Try.fd152_0 rfl (h.old 6 _ rfl rfl) kI))
            ·exact fun _ _ h => OpR.want rfl rfl (h.dt 23 75 rfl rfl rfl) hb176 (Yl.sameI (yl_load1 Try.ty9 rfl (h.dt 24 76 rfl rfl rfl) (((Box.ex hB156 h.ex).cell 0).trans rfl) kI))
            ·exact fun _ _ h => OpR.want rfl rfl (h.dt 23 75 rfl rfl rfl) hb176 (Yl.sameI (yl_fieldAddr Try.fd65_2 rfl (h.old 1 _ rfl rfl) kI))
            ·exact fun _ _ h => OpR.want rfl rfl (h.dt 23 75 rfl rfl rfl) hb176 (Yl.sameI (yl_load1 Try.ty63 rfl (h.dt 26 78 rfl rfl rfl) (((Box.ex q179 h.ex).cell 2).trans rfl) kI))
            ·exact fun _ _ h => OpR.want rfl rfl (h.dt 23 75 rfl rfl rfl) hb176 (Yl.sameI (yl_move rfl (h.old 5 _ rfl rfl) kI))
            ·exact fun _ _ h => OpR.want rfl rfl (h.dt 23 75 rfl rfl rfl) hb176 (Yl.sameI (yl_sub rfl (h.dt 28 80 rfl rfl rfl) rfl kI))
            ·intro L374 w375 hi376
             have hE377 := hi376.ex
             have hE377z := Ex.size hE377
             exact OpR.want rfl rfl (hi376.dt 23 75 rfl rfl rfl) hb176 (Yl.sameI (yl_indexAddr Try.un63 Try.ty152 rfl (hi376.dt 27 79 rfl rfl rfl) (hi376.dt 29 81 rfl rfl rfl) eA184 (by first | omega | assumption | (simp only [IntKind.wrap_i64] at *; omega)) (by first | omega | assumption | (simp only [IntKind.wrap_i64] at *; omega)) kI))
            ·exact fun _ _ h => OpR.want rfl rfl (h.dt 23 75 rfl rfl rfl) hb176 (Yl.sameI (yl_fieldAddr Try.fd152_0 rfl (h.dt 30 82 rfl rfl rfl) kI))
            ·exact fun _ _ h => OpR.want rfl rfl (h.dt 23 75 rfl rfl rfl) hb176 (Yl.sameI (yl_load1 Try.ty9 rfl (h.dt 31 83 rfl rfl rfl) ((Cells.ex eC184 h.ex) 0 _ rfl) kI))
            ·exact fun _ _ h => OpR.want rfl rfl (h.dt 23 75 rfl rfl rfl) hb176 (Yl.sameI (yl_sleq (a := ((p_0.Idxs.getD k91 d_Idx).Name)) (b := ((p_0.Idxs.getD ((IntKind.wrap .i64 ((k91 : Int) - 1)).toNat) d_Idx).Name)) rfl (h.dt 25 77 rfl rfl rfl) (h.dt 32 84 rfl rfl rfl) kI))
            ·exact fun _ _ h => OpR.want rfl rfl (h.dt 20 72 rfl rfl rfl) (not_t hb170) (Yl.sameI (yl_pick_t rfl (h.dt 23 75 rfl rfl rfl) hb176 (h.dt 33 85 rfl rfl rfl) kI))
            ·exact fun _ _ h => os rfl ((yl_pick_f rfl (h.dt 20 72 rfl rfl rfl) (not_t hb170) (h.dt 34 86 rfl rfl rfl) kI))
            ·intro fl417 fh418 L414 w415 hp416
             have hE419 := hp416.ex
             have hE419z := Ex.size hE419
             refine SeqR.done (tn (CW.sub (Sub.cons (d := 1) (hp416.old 1 _ rfl rfl) (Sub.cons (d := 45) (hp416.old 45 _ rfl rfl) (Sub.cons (d := 46) (hp416.old 46 _ rfl rfl) (Sub.cons (d := 47) (hp416.old 47 _ rfl rfl) (Sub.cons (d := 57) (hp416.nt 5 57 rfl rfl rfl) (Sub.cons (d := 58) (hp416.nt 6 58 rfl rfl rfl) (Sub.cons (d := 59) (hp416.nt 7 59 rfl rfl rfl) (Sub.cons (d := 60) (hp416.nt 8 60 rfl rfl rfl) (Sub.cons (d := 61) (hp416.nt 9 61 rfl rfl rfl) (Sub.cons (d := 62) (hp416.nt 10 62 rfl rfl rfl) (Sub.cons (d := 63) (hp416.nt 11 63 rfl rfl rfl) (Sub.cons (d := 64) (hp416.nt 12 64 rfl rfl rfl) (Sub.cons (d := 67) (hp416.nt 15 67 rfl rfl rfl) (Sub.cons (d := 68) (hp416.nt 16 68 rfl rfl rfl) (Sub.cons (d := 69) (hp416.nt 17 69 rfl rfl rfl) (Sub.cons (d := 70) (hp416.nt 18 70 rfl rfl rfl) (Sub.cons (d := 73) (hp416.nt 21 73 rfl rfl rfl) (Sub.cons (d := 74) (hp416.nt 22 74 rfl rfl rfl) (Sub.cons (d := 75) (hp416.nt 23 75 rfl rfl rfl) (Sub.cons (d := 76) (hp416.nt 24 76 rfl rfl rfl) (Sub.cons (d := 77) (hp416.nt 25 77 rfl rfl rfl) (Sub.cons (d := 78) (hp416.nt 26 78 rfl rfl rfl) (Sub.cons (d := 79) (hp416.nt 27 79 rfl rfl rfl) (Sub.cons (d := 80) (hp416.nt 28 80 rfl rfl rfl) (Sub.cons (d := 81) (hp416.nt 29 81 rfl rfl rfl) (Sub.cons (d := 82) (hp416.nt 30 82 rfl rfl rfl) (Sub.cons (d := 83) (hp416.nt 31 83 rfl rfl rfl) (Sub.cons (d := 84) (hp416.nt 32 84 rfl rfl rfl) (Sub.cons (d := 85) (hp416.nt 33 85 rfl rfl rfl) (Sub.cons (d := 86) (hp416.nt 34 86 rfl rfl rfl) (Sub.cons (d := 87) (hp416.nt 35 87 rfl rfl rfl) (Sub.nil _)))))))))))))))))))))))))))))))) ?_))
             refine bcase (sLe ((p_0.Idxs.getD k91 d_Idx).Name) ((p_0.Idxs.getD ((IntKind.wrap .i64 ((k91 : Int) - 1)).toNat) d_Idx).Name)) (fun hb451 => ?_) (fun hb451 => ?_)
             ·refine CW.cond_t rfl hb451 (CW.seq (CW.region (sd rfl (yl_assign rfl rfl (SeqR.done (tn (CW.ret (br (tr ?_)))))))))
              refine tr ?_
              have hB453 : B_i_GoodTable_1 p_0 k91 () = .ret false := by simp only [B_i_GoodTable_1, hb16, hb21, hb23, hb159, hb164, hb170, hb176, hb451, hL90, cond_true, cond_false, loopE_done, loopE_ret]
              have hL452 : loopM (B_i_GoodTable_1 p_0) (p_0.Idxs.length - 0) 0 () = .ret false := hI136.symm.trans (loopM.ret hlt147 hB453)
              refine br (tr (rr rfl (.cons rfl .nil) ?_))
              have hM454 : (i_GoodTable p_0) = (false) := by simp only [i_GoodTable, hb16, hb21, hb23, hb159, hb164, hb170, hb176, hb451, hL90, hL452, cond_true, cond_false, loopE_done, loopE_ret]
              rw [hM454]
              exact ⟨rfl, (Ex.trans (Below.only (Ex.trans hf145 hE154) hO157 (by omega)) hE419)⟩
             ·refine CW.cond_f rfl hb451 (CW.skip (bn (tn (CW.region (sd rfl (yl_inc rfl rfl rfl (by omega) (sd rfl (yl_move rfl rfl (SeqR.done (tn ?_))))))))))
              have hB458 : B_i_GoodTable_1 p_0 k91 () = .cont () := by simp only [B_i_GoodTable_1, hb16, hb21, hb23, hb159, hb164, hb170, hb176, hb451, hL90, cond_true, cond_false, loopE_done, loopE_ret]
              exact ⟨p_0.Idxs.length - (k91 + 1), by omega, k91 + 1, rfl, hlt147, (by omega), rfl, rfl, rfl, rfl, (Box.ex q179 hE419), (RdS.ex good_Str (RdS.only good_Str (RdS.ex good_Str hf143 hE154) hO157 (by simp only [Iv]; omega)) hE419), (RdS.ex good_Idx q183 hE419), (Ex.trans (Below.only (Ex.trans hf145 hE154) hO157 (by omega)) hE419), (loopM.cont hlt147 hB458).symm.trans hI136⟩
           ·have hb176p := dec_f hb176
            have q469 := Box.only (Box.ex hf142 hE154) hO157 (by omega)
            refine CW.drawsI 36 (vgetI [DetI (.pointer (some ⟨b149, 0 + 0, none⟩)), DetI (.string (bs ((p_0.Idxs.getD k91 d_Idx).Name))), DetI (.bool ((i_areLetters ((p_0.Idxs.getD k91 d_Idx).Name) 1))), DetI (.bool (!(i_areLetters ((p_0.Idxs.getD k91 d_Idx).Name) 1))), DetI (.bool (!(i_areLetters ((p_0.Idxs.getD k91 d_Idx).Name) 1))), DetI (.pointer (some ⟨b149, 0 + 1, none⟩)), DetI (.int .i64 ((p_0.Idxs.getD k91 d_Idx).Col)), DetI (.pointer (some ⟨b7, 0 + 1, none⟩)), DetI (.slice A1 p_0.Cols.length c1), DetI (.int .i64 ((p_0.Cols.length : Int))), DetI (.int .i64 (IntKind.wrap .i64 ((p_0.Cols.length : Int) - 1))), DetI (.bool ((i_within ((p_0.Idxs.getD k91 d_Idx).Col) 1 (IntKind.wrap .i64 ((p_0.Cols.length : Int) - 1))))), DetI (.bool (!(i_within ((p_0.Idxs.getD k91 d_Idx).Col) 1 (IntKind.wrap .i64 ((p_0.Cols.length : Int) - 1))))), DetI (.bool (!(i_within ((p_0.Idxs.getD k91 d_Idx).Col) 1 (IntKind.wrap .i64 ((p_0.Cols.length : Int) - 1))))), DetI (.bool (!(i_within ((p_0.Idxs.getD k91 d_Idx).Col) 1 (IntKind.wrap .i64 ((p_0.Cols.length : Int) - 1))))), DetI (.pointer (some ⟨b149, 0 + 2, none⟩)), DetI (.int .i64 ((p_0.Idxs.getD k91 d_Idx).Stage)), DetI (.bool ((i_isStage ((p_0.Idxs.getD k91 d_Idx).Stage)))), DetI (.bool (!(i_isStage ((p_0.Idxs.getD k91 d_Idx).Stage)))), DetI (.bool (!(i_isStage ((p_0.Idxs.getD k91 d_Idx).Stage)))), DetI (.bool (!(i_isStage ((p_0.Idxs.getD k91 d_Idx).Stage)))), DetI (.int .i64 ((k91 : Int))), DetI (.bool (decide (0 < (k91 : Int)))), DetI (.bool (decide (0 < (k91 : Int)))), DetI (undef), DetI (undef), DetI (undef), DetI (undef), DetI (undef), DetI (undef), DetI (undef), DetI (undef), DetI (undef), DetI (undef), DetI (.bool (false)), DetI (.bool (false))]) Try.follows rfl rfl rfl rfl rfl rfl (vgetI_stable ⟨StableI.det _, StableI.det _, StableI.det _, StableI.det _, StableI.det _, StableI.det _, StableI.det _, StableI.det _, StableI.det _, StableI.det _, StableI.det _, StableI.det _, StableI.det _, StableI.det _, StableI.det _, StableI.det _, StableI.det _, StableI.det _, StableI.det _, StableI.det _, StableI.det _, StableI.det _, StableI.det _, StableI.det _, StableI.det _, StableI.det _, StableI.det _, StableI.det _, StableI.det _, StableI.det _, StableI.det _, StableI.det _, StableI.det _, StableI.det _, StableI.det _, StableI.det _, trivial⟩) ⟨?_, ?_, ?_, ?_, ?_, ?_, ?_, ?_, ?_, ?_, ?_, ?_, ?_, ?_, ?_, ?_, ?_, ?_, ?_, ?_, ?_, ?_, ?_, ?_, ?_, ?_, ?_, ?_, ?_, ?_, ?_, ?_, ?_, ?_, ?_, ?_, trivial⟩ ?_
            ·exact fun _ _ h => os rfl ((yl_fieldAddr Try.fd152_0 rfl (h.old 6 _ rfl rfl) kI))
            ·exact fun _ _ h => os rfl ((yl_load1 Try.ty9 rfl (h.dt 0 52 rfl rfl rfl) (((Box.ex hB156 h.ex).cell 0).trans rfl) kI))
            ·intro L483 w484 hi485
             refine OpR.op' rfl (yl_call Try.en210 rfl (opvs_cons (hi485.dt 1 53 rfl rfl rfl) (opvs_cons rfl opvs_nil)) (Cal.mono (c_i_areLetters ((p_0.Idxs.getD k91 d_Idx).Name) 1 (okL.getD o3.2.2 ok_d_Idx _)) ?_))
             rintro v489 w488 ⟨rfl, hE490⟩
             exact ⟨rfl, hE490⟩
            ·exact fun _ _ h => os rfl ((yl_not rfl (h.dt 2 54 rfl rfl rfl) kI))
            ·exact fun _ _ h => os rfl ((yl_move rfl (h.dt 3 55 rfl rfl rfl) kI))
            ·exact fun _ _ h => OpR.want rfl rfl (h.dt 4 56 rfl rfl rfl) (not_t hb159) (Yl.sameI (yl_fieldAddr Try.fd152_1 rfl (h.old 6 _ rfl rfl) kI))
            ·exact fun _ _ h => OpR.want rfl rfl (h.dt 4 56 rfl rfl rfl) (not_t hb159) (Yl.sameI (yl_load1 Try.ty3 rfl (h.dt 5 57 rfl rfl rfl) (((Box.ex hB156 h.ex).cell 1).trans rfl) kI))
            ·exact fun _ _ h => OpR.want rfl rfl (h.dt 4 56 rfl rfl rfl) (not_t hb159) (Yl.sameI (yl_fieldAddr Try.fd65_1 rfl (h.old 1 _ rfl rfl) kI))
            ·exact fun _ _ h => OpR.want rfl rfl (h.dt 4 56 rfl rfl rfl) (not_t hb159) (Yl.sameI (yl_load1 Try.ty52 rfl (h.dt 7 59 rfl rfl rfl) (((Box.ex q469 h.ex).cell 1).trans rfl) kI))
            ·exact fun _ _ h => OpR.want rfl rfl (h.dt 4 56 rfl rfl rfl) (not_t hb159) (Yl.sameI (yl_len Try.un52 rfl (h.dt 8 60 rfl rfl rfl) kI))
            ·exact fun _ _ h => OpR.want rfl rfl (h.dt 4 56 rfl rfl rfl) (not_t hb159) (Yl.sameI (yl_sub rfl (h.dt 9 61 rfl rfl rfl) rfl kI))
            ·intro L539 w540 hi541
             refine OpR.want rfl rfl (hi541.dt 4 56 rfl rfl rfl) (not_t hb159) (yl_call Try.en142 rfl (opvs_cons (hi541.dt 6 58 rfl rfl rfl) (opvs_cons rfl (opvs_cons (hi541.dt 10 62 rfl rfl rfl) opvs_nil))) (Cal.mono (c_i_within ((p_0.Idxs.getD k91 d_Idx).Col) 1 (IntKind.wrap .i64 ((p_0.Cols.length : Int) - 1))) ?_))
             rintro v547 w546 ⟨rfl, hE548⟩
             exact ⟨rfl, hE548⟩
            ·exact fun _ _ h => OpR.want rfl rfl (h.dt 4 56 rfl rfl rfl) (not_t hb159) (Yl.sameI (yl_not rfl (h.dt 11 63 rfl rfl rfl) kI))
            ·exact fun _ _ h => os rfl ((yl_pick_f rfl (h.dt 4 56 rfl rfl rfl) (not_t hb159) (h.dt 12 64 rfl rfl rfl) kI))
            ·exact fun _ _ h => os rfl ((yl_move rfl (h.dt 13 65 rfl rfl rfl) kI))
            ·exact fun _ _ h => OpR.want rfl rfl (h.dt 14 66 rfl rfl rfl) (not_t hb164) (Yl.sameI (yl_fieldAddr Try.fd152_2 rfl (h.old 6 _ rfl rfl) kI))
            ·exact fun _ _ h => OpR.want rfl rfl (h.dt 14 66 rfl rfl rfl) (not_t hb164) (Yl.sameI (yl_load1 Try.ty3 rfl (h.dt 15 67 rfl rfl rfl) (((Box.ex hB156 h.ex).cell 2).trans rfl) kI))
            ·intro L579 w580 hi581
             refine OpR.want rfl rfl (hi581.dt 14 66 rfl rfl rfl) (not_t hb164) (yl_call Try.en212 rfl (opvs_cons (hi581.dt 16 68 rfl rfl rfl) opvs_nil) (Cal.mono (c_i_isStage ((p_0.Idxs.getD k91 d_Idx).Stage)) ?_))
             rintro v586 w585 ⟨rfl, hE587⟩
             exact ⟨rfl, hE587⟩
            ·exact fun _ _ h => OpR.want rfl rfl (h.dt 14 66 rfl rfl rfl) (not_t hb164) (Yl.sameI (yl_not rfl (h.dt 17 69 rfl rfl rfl) kI))
            ·exact fun _ _ h => os rfl ((yl_pick_f rfl (h.dt 14 66 rfl rfl rfl) (not_t hb164) (h.dt 18 70 rfl rfl rfl) kI))
            ·exact fun _ _ h => os rfl ((yl_move rfl (h.dt 19 71 rfl rfl rfl) kI))
            ·exact fun _ _ h => OpR.want rfl rfl (h.dt 20 72 rfl rfl rfl) (not_t hb170) (Yl.sameI (yl_move rfl (h.old 5 _ rfl rfl) kI))
            ·exact fun _ _ h => OpR.want rfl rfl (h.dt 20 72 rfl rfl rfl) (not_t hb170) (Yl.sameI (yl_gtr rfl (h.dt 21 73 rfl rfl rfl) rfl kI))
            ·exact fun _ _ h => OpR.want rfl rfl (h.dt 20 72 rfl rfl rfl) (not_t hb170) (Yl.sameI (yl_move rfl (h.dt 22 74 rfl rfl rfl) kI))
            ·exact fun _ _ h => OpR.skip rfl rfl (h.dt 23 75 rfl rfl rfl) hb176 ⟨rfl, Ex.refl _⟩
            ·exact fun _ _ h => OpR.skip rfl rfl (h.dt 23 75 rfl rfl rfl) hb176 ⟨rfl, Ex.refl _⟩
            ·exact fun _ _ h => OpR.skip rfl rfl (h.dt 23 75 rfl rfl rfl) hb176 ⟨rfl, Ex.refl _⟩
            ·exact fun _ _ h => OpR.skip rfl rfl (h.dt 23 75 rfl rfl rfl) hb176 ⟨rfl, Ex.refl _⟩
            ·exact fun _ _ h => OpR.skip rfl rfl (h.dt 23 75 rfl rfl rfl) hb176 ⟨rfl, Ex.refl _⟩
            ·exact fun _ _ h => OpR.skip rfl rfl (h.dt 23 75 rfl rfl rfl) hb176 ⟨rfl, Ex.refl _⟩
            ·exact fun _ _ h => OpR.skip rfl rfl (h.dt 23 75 rfl rfl rfl) hb176 ⟨rfl, Ex.refl _⟩
            ·exact fun _ _ h => OpR.skip rfl rfl (h.dt 23 75 rfl rfl rfl) hb176 ⟨rfl, Ex.refl _⟩
            ·exact fun _ _ h => OpR.skip rfl rfl (h.dt 23 75 rfl rfl rfl) hb176 ⟨rfl, Ex.refl _⟩
            ·exact fun _ _ h => OpR.skip rfl rfl (h.dt 23 75 rfl rfl rfl) hb176 ⟨rfl, Ex.refl _⟩
            ·exact fun _ _ h => OpR.want rfl rfl (h.dt 20 72 rfl rfl rfl) (not_t hb170) (Yl.sameI (yl_pick_f rfl (h.dt 23 75 rfl rfl rfl) hb176 rfl kI))
            ·exact fun _ _ h => os rfl ((yl_pick_f rfl (h.dt 20 72 rfl rfl rfl) (not_t hb170) (h.dt 34 86 rfl rfl rfl) kI))
            ·intro fl689 fh690 L686 w687 hp688
             have hE691 := hp688.ex
             have hE691z := Ex.size hE691
             refine SeqR.done (tn (CW.sub (Sub.cons (d := 1) (hp688.old 1 _ rfl rfl) (Sub.cons (d := 45) (hp688.old 45 _ rfl rfl) (Sub.cons (d := 46) (hp688.old 46 _ rfl rfl) (Sub.cons (d := 47) (hp688.old 47 _ rfl rfl) (Sub.cons (d := 57) (hp688.nt 5 57 rfl rfl rfl) (Sub.cons (d := 58) (hp688.nt 6 58 rfl rfl rfl) (Sub.cons (d := 59) (hp688.nt 7 59 rfl rfl rfl) (Sub.cons (d := 60) (hp688.nt 8 60 rfl rfl rfl) (Sub.cons (d := 61) (hp688.nt 9 61 rfl rfl rfl) (Sub.cons (d := 62) (hp688.nt 10 62 rfl rfl rfl) (Sub.cons (d := 63) (hp688.nt 11 63 rfl rfl rfl) (Sub.cons (d := 64) (hp688.nt 12 64 rfl rfl rfl) (Sub.cons (d := 67) (hp688.nt 15 67 rfl rfl rfl) (Sub.cons (d := 68) (hp688.nt 16 68 rfl rfl rfl) (Sub.cons (d := 69) (hp688.nt 17 69 rfl rfl rfl) (Sub.cons (d := 70) (hp688.nt 18 70 rfl rfl rfl) (Sub.cons (d := 73) (hp688.nt 21 73 rfl rfl rfl) (Sub.cons (d := 74) (hp688.nt 22 74 rfl rfl rfl) (Sub.cons (d := 75) (hp688.nt 23 75 rfl rfl rfl) (Sub.cons (d := 76) (hp688.nt 24 76 rfl rfl rfl) (Sub.cons (d := 77) (hp688.nt 25 77 rfl rfl rfl) (Sub.cons (d := 78) (hp688.nt 26 78 rfl rfl rfl) (Sub.cons (d := 79) (hp688.nt 27 79 rfl rfl rfl) (Sub.cons (d := 80) (hp688.nt 28 80 rfl rfl rfl) (Sub.cons (d := 81) (hp688.nt 29 81 rfl rfl rfl) (Sub.cons (d := 82) (hp688.nt 30 82 rfl rfl rfl) (Sub.cons (d := 83) (hp688.nt 31 83 rfl rfl rfl) (Sub.cons (d := 84) (hp688.nt 32 84 rfl rfl rfl) (Sub.cons (d := 85) (hp688.nt 33 85 rfl rfl rfl) (Sub.cons (d := 86) (hp688.nt 34 86 rfl rfl rfl) (Sub.cons (d := 87) (hp688.nt 35 87 rfl rfl rfl) (Sub.nil _)))))))))))))))))))))))))))))))) ?_))
             refine CW.cond_f rfl rfl (CW.skip (bn (tn (CW.region (sd rfl (yl_inc rfl rfl rfl (by omega) (sd rfl (yl_move rfl rfl (SeqR.done (tn ?_))))))))))
             have hB723 : B_i_GoodTable_1 p_0 k91 () = .cont () := by simp only [B_i_GoodTable_1, hb16, hb21, hb23, hb159, hb164, hb170, hb176, hL90, cond_true, cond_false, loopE_done, loopE_ret]
             exact ⟨p_0.Idxs.length - (k91 + 1), by omega, k91 + 1, rfl, hlt147, (by omega), rfl, rfl, rfl, rfl, (Box.ex q469 hE691), (RdS.ex good_Str (RdS.only good_Str (RdS.ex good_Str hf143 hE154) hO157 (by simp only [Iv]; omega)) hE691), (RdS.ex good_Idx (RdS.only good_Idx (RdS.ex good_Idx hf144 hE154) hO157 (by simp only [Iv]; omega)) hE691), (Ex.trans (Below.only (Ex.trans hf145 hE154) hO157 (by omega)) hE691), (loopM.cont hlt147 hB723).symm.trans hI136⟩
          ·refine CW.drawsI 36 (vgetI [DetI (.pointer (some ⟨b149, 0 + 0, none⟩)), DetI (.string (bs ((p_0.Idxs.getD k91 d_Idx).Name))), DetI (.bool ((i_areLetters ((p_0.Idxs.getD k91 d_Idx).Name) 1))), DetI (.bool (!(i_areLetters ((p_0.Idxs.getD k91 d_Idx).Name) 1))), DetI (.bool (!(i_areLetters ((p_0.Idxs.getD k91 d_Idx).Name) 1))), DetI (.pointer (some ⟨b149, 0 + 1, none⟩)), DetI (.int .i64 ((p_0.Idxs.getD k91 d_Idx).Col)), DetI (.pointer (some ⟨b7, 0 + 1, none⟩)), DetI (.slice A1 p_0.Cols.length c1), DetI (.int .i64 ((p_0.Cols.length : Int))), DetI (.int .i64 (IntKind.wrap .i64 ((p_0.Cols.length : Int) - 1))), DetI (.bool ((i_within ((p_0.Idxs.getD k91 d_Idx).Col) 1 (IntKind.wrap .i64 ((p_0.Cols.length : Int) - 1))))), DetI (.bool (!(i_within ((p_0.Idxs.getD k91 d_Idx).Col) 1 (IntKind.wrap .i64 ((p_0.Cols.length : Int) - 1))))), DetI (.bool (!(i_within ((p_0.Idxs.getD k91 d_Idx).Col) 1 (IntKind.wrap .i64 ((p_0.Cols.length : Int) - 1))))), DetI (.bool (!(i_within ((p_0.Idxs.getD k91 d_Idx).Col) 1 (IntKind.wrap .i64 ((p_0.Cols.length : Int) - 1))))), DetI (.pointer (some ⟨b149, 0 + 2, none⟩)), DetI (.int .i64 ((p_0.Idxs.getD k91 d_Idx).Stage)), DetI (.bool ((i_isStage ((p_0.Idxs.getD k91 d_Idx).Stage)))), DetI (.bool (!(i_isStage ((p_0.Idxs.getD k91 d_Idx).Stage)))), DetI (.bool (!(i_isStage ((p_0.Idxs.getD k91 d_Idx).Stage)))), DetI (.bool (!(i_isStage ((p_0.Idxs.getD k91 d_Idx).Stage)))), DetI (undef), DetI (undef), DetI (undef), DetI (undef), DetI (undef), DetI (undef), DetI (undef), DetI (undef), DetI (undef), DetI (undef), DetI (undef), DetI (undef), DetI (undef), DetI (undef), DetI (.bool (true))]) Try.follows rfl rfl rfl rfl rfl rfl (vgetI_stable ⟨StableI.det _, StableI.det _, StableI.det _, StableI.det _, StableI.det _, StableI.det _, StableI.det _, StableI.det _, StableI.det _, StableI.det _, StableI.det _, StableI.det _, StableI.det _, StableI.det _, StableI.det _, StableI.det _, StableI.det _, StableI.det _, StableI.det _, StableI.det _, StableI.det _, StableI.det _, StableI.det _, StableI.det _, StableI.det _, StableI.det _, StableI.det _, StableI.det _, StableI.det _, StableI.det _, StableI.det _, StableI.det _, StableI.det _, StableI.det _, StableI.det _, StableI.det _, trivial⟩) ⟨?_, ?_, ?_, ?_, ?_, ?_, ?_, ?_, ?_, ?_, ?_, ?_, ?_, ?_, ?_, ?_, ?_, ?_, ?_, ?_, ?_, ?_, ?_, ?_, ?_, ?_, ?_, ?_, ?_, ?_, ?_, ?_, ?_, ?_, ?_, ?_, trivial⟩ ?_
           ·exact fun _ _ h => os rfl ((yl_fieldAddr Try.fd152_0 rfl (h.old 6 _ rfl rfl) kI))
           ·exact fun _ _ h => os rfl ((yl_load1 Try.ty9 rfl (h.dt 0 52 rfl rfl rfl) (((Box.ex hB156 h.ex).cell 0).trans rfl) kI))
           ·intro L750 w751 hi752
            refine OpR.op' rfl (yl_call Try.en210 rfl (opvs_cons (hi752.dt 1 53 rfl rfl rfl) (opvs_cons rfl opvs_nil)) (Cal.mono (c_i_areLetters ((p_0.Idxs.getD k91 d_Idx).Name) 1 (okL.getD o3.2.2 ok_d_Idx _)) ?_))
            rintro v756 w755 ⟨rfl, hE757⟩
            exact ⟨rfl, hE757⟩
           ·exact fun _ _ h => os rfl ((yl_not rfl (h.dt 2 54 rfl rfl rfl) kI))
           ·exact fun _ _ h => os rfl ((yl_move rfl (h.dt 3 55 rfl rfl rfl) kI))
           ·exact fun _ _ h => OpR.want rfl rfl (h.dt 4 56 rfl rfl rfl) (not_t hb159) (Yl.sameI (yl_fieldAddr Try.fd152_1 rfl (h.old 6 _ rfl rfl) kI))
           ·exact fun _ _ h => OpR.want rfl rfl (h.dt 4 56 rfl rfl rfl) (not_t hb159) (Yl.sameI (yl_load1 Try.ty3 rfl (h.dt 5 57 rfl rfl rfl) (((Box.ex hB156 h.ex).cell 1).trans rfl) kI))
           ·exact fun _ _ h => OpR.want rfl rfl (h.dt 4 56 rfl rfl rfl) (not_t hb159) (Yl.sameI (yl_fieldAddr Try.fd65_1 rfl (h.old 1 _ rfl rfl) kI))
           ·intro L787 w788 hi789
            have hE790 := hi789.ex
            have hE790z := Ex.size hE790
            exact OpR.want rfl rfl (hi789.dt 4 56 rfl rfl rfl) (not_t hb159) (Yl.sameI (yl_load1 Try.ty52 rfl (hi789.dt 7 59 rfl rfl rfl) (((Box.ex (Box.only (Box.ex hf142 hE154) hO157 (by omega)) hE790).cell 1).trans rfl) kI))
           ·exact fun _ _ h => OpR.want rfl rfl (h.dt 4 56 rfl rfl rfl) (not_t hb159) (Yl.sameI (yl_len Try.un52 rfl (h.dt 8 60 rfl rfl rfl) kI))
           ·exact fun _ _ h => OpR.want rfl rfl (h.dt 4 56 rfl rfl rfl) (not_t hb159) (Yl.sameI (yl_sub rfl (h.dt 9 61 rfl rfl rfl) rfl kI))
           ·intro L806 w807 hi808
            refine OpR.want rfl rfl (hi808.dt 4 56 rfl rfl rfl) (not_t hb159) (yl_call Try.en142 rfl (opvs_cons (hi808.dt 6 58 rfl rfl rfl) (opvs_cons rfl (opvs_cons (hi808.dt 10 62 rfl rfl rfl) opvs_nil))) (Cal.mono (c_i_within ((p_0.Idxs.getD k91 d_Idx).Col) 1 (IntKind.wrap .i64 ((p_0.Cols.length : Int) - 1))) ?_))
            rintro v814 w813 ⟨rfl, hE815⟩
            exact ⟨rfl, hE815⟩
           ·exact fun _ _ h => OpR.want rfl rfl (h.dt 4 56 rfl rfl rfl) (not_t hb159) (Yl.sameI (yl_not rfl (h.dt 11 63 rfl rfl rfl) kI))
           ·exact fun _ _ h => os rfl ((yl_pick_f rfl (h.dt 4 56 rfl rfl rfl) (not_t hb159) (h.dt 12 64 rfl rfl rfl) kI))
           ·exact fun _ _ h => os rfl ((yl_move rfl (h.dt 13 65 rfl rfl rfl) kI))
           ·exact fun _ _ h => OpR.want rfl rfl (h.dt 14 66 rfl rfl rfl) (not_t hb164) (Yl.sameI (yl_fieldAddr Try.fd152_2 rfl (h.old 6 _ rfl rfl) kI))
           ·exact fun _ _ h => OpR.want rfl rfl (h.dt 14 66 rfl rfl rfl) (not_t hb164) (Yl.sameI (yl_load1 Try.ty3 rfl (h.dt 15 67 rfl rfl rfl) (((Box.ex hB156 h.ex).cell 2).trans rfl) kI))
           ·intro L846 w847 hi848
            refine OpR.want rfl rfl (hi848.dt 14 66 rfl rfl rfl) (not_t hb164) (yl_call Try.en212 rfl (opvs_cons (hi848.dt 16 68 rfl rfl rfl) opvs_nil) (Cal.mono (c_i_isStage ((p_0.Idxs.getD k91 d_Idx).Stage)) ?_))
            rintro v853 w852 ⟨rfl, hE854⟩
            exact ⟨rfl, hE854⟩
           ·exact fun _ _ h => OpR.want rfl rfl (h.dt 14 66 rfl rfl rfl) (not_t hb164) (Yl.sameI (yl_not rfl (h.dt 17 69 rfl rfl rfl) kI))
           ·exact fun _ _ h => os rfl ((yl_pick_f rfl (h.dt 14 66 rfl rfl rfl) (not_t hb164) (h.dt 18 70 rfl rfl rfl) kI))
           ·exact fun _ _ h => os rfl ((yl_move rfl (h.dt 19 71 rfl rfl rfl) kI))
           ·exact fun _ _ h => OpR.skip rfl rfl (h.dt 20 72 rfl rfl rfl) (not_f hb170) ⟨rfl, Ex.refl _⟩
           ·exact fun _ _ h => OpR.skip rfl rfl (h.dt 20 72 rfl rfl rfl) (not_f hb170) ⟨rfl, Ex.refl _⟩
           ·exact fun _ _ h => OpR.skip rfl rfl (h.dt 20 72 rfl rfl rfl) (not_f hb170) ⟨rfl, Ex.refl _⟩
           ·exact fun _ _ h => OpR.undef rfl rfl (h.dt 23 75 rfl rfl rfl) ⟨rfl, Ex.refl _⟩
           ·exact fun _ _ h => OpR.undef rfl rfl (h.dt 23 75 rfl rfl rfl) ⟨rfl, Ex.refl _⟩
           ·exact fun _ _ h => OpR.undef rfl rfl (h.dt 23 75 rfl rfl rfl) ⟨rfl, Ex.refl _⟩
           ·exact fun _ _ h => OpR.undef rfl rfl (h.dt 23 75 rfl rfl rfl) ⟨rfl, Ex.refl _⟩
           ·exact fun _ _ h => OpR.undef rfl rfl (h.dt 23 75 rfl rfl rfl) ⟨rfl, Ex.refl _⟩
           ·exact fun _ _ h => OpR.undef rfl rfl (h.dt 23 75 rfl rfl rfl) ⟨rfl, Ex.refl _⟩
           ·exact fun _ _ h => OpR.undef rfl rfl (h.dt 23 75 rfl rfl rfl) ⟨rfl, Ex.refl _⟩
           ·exact fun _ _ h => OpR.undef rfl rfl (h.dt 23 75 rfl rfl rfl) ⟨rfl, Ex.refl _⟩
           ·exact fun _ _ h => OpR.undef rfl rfl (h.dt 23 75 rfl rfl rfl) ⟨rfl, Ex.refl _⟩
           ·exact fun _ _ h => OpR.undef rfl rfl (h.dt 23 75 rfl rfl rfl) ⟨rfl, Ex.refl _⟩
           ·exact fun _ _ h => OpR.skip rfl rfl (h.dt 20 72 rfl rfl rfl) (not_f hb170) ⟨rfl, Ex.refl _⟩
           ·exact fun _ _ h => os rfl ((yl_pick_t rfl (h.dt 20 72 rfl rfl rfl) (not_f hb170) rfl kI))
           ·intro fl951 fh952 L948 w949 hp950
            have hE953 := hp950.ex
            have hE953z := Ex.size hE953
            refine SeqR.done (tn (CW.sub (Sub.cons (d := 1) (hp950.old 1 _ rfl rfl) (Sub.cons (d := 45) (hp950.old 45 _ rfl rfl) (Sub.cons (d := 46) (hp950.old 46 _ rfl rfl) (Sub.cons (d := 47) (hp950.old 47 _ rfl rfl) (Sub.cons (d := 57) (hp950.nt 5 57 rfl rfl rfl) (Sub.cons (d := 58) (hp950.nt 6 58 rfl rfl rfl) (Sub.cons (d := 59) (hp950.nt 7 59 rfl rfl rfl) (Sub.cons (d := 60) (hp950.nt 8 60 rfl rfl rfl) (Sub.cons (d := 61) (hp950.nt 9 61 rfl rfl rfl) (Sub.cons (d := 62) (hp950.nt 10 62 rfl rfl rfl) (Sub.cons (d := 63) (hp950.nt 11 63 rfl rfl rfl) (Sub.cons (d := 64) (hp950.nt 12 64 rfl rfl rfl) (Sub.cons (d := 67) (hp950.nt 15 67 rfl rfl rfl) (Sub.cons (d := 68) (hp950.nt 16 68 rfl rfl rfl) (Sub.cons (d := 69) (hp950.nt 17 69 rfl rfl rfl) (Sub.cons (d := 70) (hp950.nt 18 70 rfl rfl rfl) (Sub.cons (d := 73) (hp950.nt 21 73 rfl rfl rfl) (Sub.cons (d := 74) (hp950.nt 22 74 rfl rfl rfl) (Sub.cons (d := 75) (hp950.nt 23 75 rfl rfl rfl) (Sub.cons (d := 76) (hp950.nt 24 76 rfl rfl rfl) (Sub.cons (d := 77) (hp950.nt 25 77 rfl rfl rfl) (Sub.cons (d := 78) (hp950.nt 26 78 rfl rfl rfl) (Sub.cons (d := 79) (hp950.nt 27 79 rfl rfl rfl) (Sub.cons (d := 80) (hp950.nt 28 80 rfl rfl rfl) (Sub.cons (d := 81) (hp950.nt 29 81 rfl rfl rfl) (Sub.cons (d := 82) (hp950.nt 30 82 rfl rfl rfl) (Sub.cons (d := 83) (hp950.nt 31 83 rfl rfl rfl) (Sub.cons (d := 84) (hp950.nt 32 84 rfl rfl rfl) (Sub.cons (d := 85) (hp950.nt 33 85 rfl rfl rfl) (Sub.cons (d := 86) (hp950.nt 34 86 rfl rfl rfl) (Sub.cons (d := 87) (hp950.nt 35 87 rfl rfl rfl) (Sub.nil _)))))))))))))))))))))))))))))))) ?_))
            refine CW.cond_t rfl rfl (CW.seq (CW.region (sd rfl (yl_assign rfl rfl (SeqR.done (tn (CW.ret (br (tr ?_)))))))))
            refine tr ?_
            have hB986 : B_i_GoodTable_1 p_0 k91 () = .ret false := by simp only [B_i_GoodTable_1, hb16, hb21, hb23, hb159, hb164, hb170, hL90, cond_true, cond_false, loopE_done, loopE_ret]
            have hL985 : loopM (B_i_GoodTable_1 p_0) (p_0.Idxs.length - 0) 0 () = .ret false := hI136.symm.trans (loopM.ret hlt147 hB986)
            refine br (tr (rr rfl (.cons rfl .nil) ?_))
            have hM987 : (i_GoodTable p_0) = (false) := by simp only [i_GoodTable, hb16, hb21, hb23, hb159, hb164, hb170, hL90, hL985, cond_true, cond_false, loopE_done, loopE_ret]
            rw [hM987]
            exact ⟨rfl, (Ex.trans (Below.only (Ex.trans hf145 hE154) hO157 (by omega)) hE953)⟩
         ·refine CW.drawsI 36 (vgetI [DetI (.pointer (some ⟨b149, 0 + 0, none⟩)), DetI (.string (bs ((p_0.Idxs.getD k91 d_Idx).Name))), DetI (.bool ((i_areLetters ((p_0.Idxs.getD k91 d_Idx).Name) 1))), DetI (.bool (!(i_areLetters ((p_0.Idxs.getD k91 d_Idx).Name) 1))), DetI (.bool (!(i_areLetters ((p_0.Idxs.getD k91 d_Idx).Name) 1))), DetI (.pointer (some ⟨b149, 0 + 1, none⟩)), DetI (.int .i64 ((p_0.Idxs.getD k91 d_Idx).Col)), DetI (.pointer (some ⟨b7, 0 + 1, none⟩)), DetI (.slice A1 p_0.Cols.length c1), DetI (.int .i64 ((p_0.Cols.length : Int))), DetI (.int .i64 (IntKind.wrap .i64 ((p_0.Cols.length : Int) - 1))), DetI (.bool ((i_within ((p_0.Idxs.getD k91 d_Idx).Col) 1 (IntKind.wrap .i64 ((p_0.Cols.length : Int) - 1))))), DetI (.bool (!(i_within ((p_0.Idxs.getD k91 d_Idx).Col) 1 (IntKind.wrap .i64 ((p_0.Cols.length : Int) - 1))))), DetI (.bool (!(i_within ((p_0.Idxs.getD k91 d_Idx).Col) 1 (IntKind.wrap .i64 ((p_0.Cols.length : Int) - 1))))), DetI (.bool (!(i_within ((p_0.Idxs.getD k91 d_Idx).Col) 1 (IntKind.wrap .i64 ((p_0.Cols.length : Int) - 1))))), DetI (undef), DetI (undef), DetI (undef), DetI (undef), DetI (.bool (true)), DetI (.bool (true)), DetI (undef), DetI (undef), DetI (undef), DetI (undef), DetI (undef), DetI (undef), DetI (undef), DetI (undef), DetI (undef), DetI (undef), DetI (undef), DetI (undef), DetI (undef), DetI (undef), DetI (.bool (true))]) Try.follows rfl rfl rfl rfl rfl rfl (vgetI_stable ⟨StableI.det _, StableI.det _, StableI.det _, StableI.det _, StableI.det _, StableI.det _, StableI.det _, StableI.det _, StableI.det _, StableI.det _, StableI.det _, StableI.det _, StableI.det _, StableI.det _, StableI.det _, StableI.det _, StableI.det _, StableI.det _, StableI.det _, StableI.det _, StableI.det _, StableI.det _, StableI.det _, StableI.det _, StableI.det _, StableI.det _, StableI.det _, StableI.det _, StableI.det _, StableI.det _, StableI.det _, StableI.det _, StableI.det _, StableI.det _, StableI.det _, StableI.det _, trivial⟩) ⟨?_, ?_, ?_, ?_, ?_, ?_, ?_, ?_, ?_, ?_, ?_, ?_, ?_, ?_, ?_, ?_, ?_, ?_, ?_, ?_, ?_, ?_, ?_, ?_, ?_, ?_, ?_, ?_, ?_, ?_, ?_, ?_, ?_, ?_, ?_, ?_, trivial⟩ ?_
          ·exact fun _ _ h => os rfl ((yl_fieldAddr Try.fd152_0 rfl (h.old 6 _ rfl rfl) kI))
          ·exact fun _ _ h => os rfl ((yl_load1 Try.ty9 rfl (h.dt 0 52 rfl rfl rfl) (((Box.ex hB156 h.ex).cell 0).trans rfl) kI))
          ·intro L1006 w1007 hi1008
           refine OpR.op' rfl (yl_call Try.en210 rfl (opvs_cons (hi1008.dt 1 53 rfl rfl rfl) (opvs_cons rfl opvs_nil)) (Cal.mono (c_i_areLetters ((p_0.Idxs.getD k91 d_Idx).Name) 1 (okL.getD o3.2.2 ok_d_Idx _)) ?_))
           rintro v1012 w1011 ⟨rfl, hE1013⟩
           exact ⟨rfl, hE1013⟩
          ·exact fun _ _ h => os rfl ((yl_not rfl (h.dt 2 54 rfl rfl rfl) kI))
          ·exact fun _ _ h => os rfl ((yl_move rfl (h.dt 3 55 rfl rfl rfl) kI))
          ·exact fun _ _ h => OpR.want rfl rfl (h.dt 4 56 rfl rfl rfl) (not_t hb159) (Yl.sameI (yl_fieldAddr Try.fd152_1 rfl (h.old 6 _ rfl rfl) kI))
          ·exact fun _ _ h => OpR.want rfl rfl (h.dt 4 56 rfl rfl rfl) (not_t hb159) (Yl.sameI (yl_load1 Try.ty3 rfl (h.dt 5 57 rfl rfl rfl) (((Box.ex hB156 h.ex).cell 1).trans rfl) kI))
          ·exact fun _ _ h => OpR.want rfl rfl (h.dt 4 56 rfl rfl rfl) (not_t hb159) (Yl.sameI (yl_fieldAddr Try.fd65_1 rfl (h.old 1 _ rfl rfl) kI))
          ·intro L1043 w1044 hi1045
           have hE1046 := hi1045.ex
           have hE1046z := Ex.size hE1046
           exact OpR.want rfl rfl (hi1045.dt 4 56 rfl rfl rfl) (not_t hb159) (Yl.sameI (yl_load1 Try.ty52 rfl (hi1045.dt 7 59 rfl rfl rfl) (((Box.ex (Box.only (Box.ex hf142 hE154) hO157 (by omega)) hE1046).cell 1).trans rfl) kI))
          ·exact fun _ _ h => OpR.want rfl rfl (h.dt 4 56 rfl rfl rfl) (not_t hb159) (Yl.sameI (yl_len Try.un52 rfl (h.dt 8 60 rfl rfl rfl) kI))
          ·exact fun _ _ h => OpR.want rfl rfl (h.dt 4 56 rfl rfl rfl) (not_t hb159) (Yl.sameI (yl_sub rfl (h.dt 9 61 rfl rfl rfl) rfl kI))
          ·intro L1062 w1063 hi1064
           refine OpR.want rfl rfl (hi1064.dt 4 56 rfl rfl rfl) (not_t hb159) (yl_call Try.en142 rfl (opvs_cons (hi1064.dt 6 58 rfl rfl rfl) (opvs_cons rfl (opvs_cons (hi1064.dt 10 62 rfl rfl rfl) opvs_nil))) (Cal.mono (c_i_within ((p_0.Idxs.getD k91 d_Idx).Col) 1 (IntKind.wrap .i64 ((p_0.Cols.length : Int) - 1))) ?_))
           rintro v1070 w1069 ⟨rfl, hE1071⟩
           exact ⟨rfl, hE1071⟩
          ·exact fun _ _ h => OpR.want rfl rfl (h.dt 4 56 rfl rfl rfl) (not_t hb159) (Yl.sameI (yl_not rfl (h.dt 11 63 rfl rfl rfl) kI))
          ·exact fun _ _ h => os rfl ((yl_pick_f rfl (h.dt 4 56 rfl rfl rfl) (not_t hb159) (h.dt 12 64 rfl rfl rfl) kI))
          ·exact fun _ _ h => os rfl ((yl_move rfl (h.dt 13 65 rfl rfl rfl) kI))
          ·exact fun _ _ h => OpR.skip rfl rfl (h.dt 14 66 rfl rfl rfl) (not_f hb164) ⟨rfl, Ex.refl _⟩
          ·exact fun _ _ h => OpR.skip rfl rfl (h.dt 14 66 rfl rfl rfl) (not_f hb164) ⟨rfl, Ex.refl _⟩
          ·exact fun _ _ h => OpR.skip rfl rfl (h.dt 14 66 rfl rfl rfl) (not_f hb164) ⟨rfl, Ex.refl _⟩
          ·exact fun _ _ h => OpR.skip rfl rfl (h.dt 14 66 rfl rfl rfl) (not_f hb164) ⟨rfl, Ex.refl _⟩
          ·exact fun _ _ h => os rfl ((yl_pick_t rfl (h.dt 14 66 rfl rfl rfl) (not_f hb164) rfl kI))
          ·exact fun _ _ h => os rfl ((yl_move rfl (h.dt 19 71 rfl rfl rfl) kI))
          ·exact fun _ _ h => OpR.skip rfl rfl (h.dt 20 72 rfl rfl rfl) rfl ⟨rfl, Ex.refl _⟩
          ·exact fun _ _ h => OpR.skip rfl rfl (h.dt 20 72 rfl rfl rfl) rfl ⟨rfl, Ex.refl _⟩
          ·exact fun _ _ h => OpR.skip rfl rfl (h.dt 20 72 rfl rfl rfl) rfl ⟨rfl, Ex.refl _⟩
          ·exact fun _ _ h => OpR.undef rfl rfl (h.dt 23 75 rfl rfl rfl) ⟨rfl, Ex.refl _⟩
          ·exact fun _ _ h => OpR.undef rfl rfl (h.dt 23 75 rfl rfl rfl) ⟨rfl, Ex.refl _⟩
          ·exact fun _ _ h => OpR.undef rfl rfl (h.dt 23 75 rfl rfl rfl) ⟨rfl, Ex.refl _⟩
          ·exact fun _ _ h => OpR.undef rfl rfl (h.dt 23 75 rfl rfl rfl) ⟨rfl, Ex.refl _⟩
          ·exact fun _ _ h => OpR.undef rfl rfl (h.dt 23 75 rfl rfl rfl) ⟨rfl, Ex.refl _⟩
          ·exact fun _ _ h => OpR.undef rfl rfl (h.dt 23 75 rfl rfl rfl) ⟨rfl, Ex.refl _⟩
          ·exact fun _ _ h => OpR.undef rfl rfl (h.dt 23 75 rfl rfl rfl) ⟨rfl, Ex.refl _⟩
          ·exact fun _ _ h => OpR.undef rfl rfl (h.dt 23 75 rfl rfl rfl) ⟨rfl, Ex.refl _⟩
          ·exact fun _ _ h => OpR.undef rfl rfl (h.dt 23 75 rfl rfl rfl) ⟨rfl, Ex.refl _⟩
          ·exact fun _ _ h => OpR.undef rfl rfl (h.dt 23 75 rfl rfl rfl) ⟨rfl, Ex.refl _⟩
          ·exact fun _ _ h => OpR.skip rfl rfl (h.dt 20 72 rfl rfl rfl) rfl ⟨rfl, Ex.refl _⟩
          ·exact fun _ _ h => os rfl ((yl_pick_t rfl (h.dt 20 72 rfl rfl rfl) rfl rfl kI))
          ·intro fl1199 fh1200 L1196 w1197 hp1198
           have hE1201 := hp1198.ex
           have hE1201z := Ex.size hE1201
           refine SeqR.done (tn (CW.sub (Sub.cons (d := 1) (hp1198.old 1 _ rfl rfl) (Sub.cons (d := 45) (hp1198.old 45 _ rfl rfl) (Sub.cons (d := 46) (hp1198.old 46 _ rfl rfl) (Sub.cons (d := 47) (hp1198.old 47 _ rfl rfl) (Sub.cons (d := 57) (hp1198.nt 5 57 rfl rfl rfl) (Sub.cons (d := 58) (hp1198.nt 6 58 rfl rfl rfl) (Sub.cons (d := 59) (hp1198.nt 7 59 rfl rfl rfl) (Sub.cons (d := 60) (hp1198.nt 8 60 rfl rfl rfl) (Sub.cons (d := 61) (hp1198.nt 9 61 rfl rfl rfl) (Sub.cons (d := 62) (hp1198.nt 10 62 rfl rfl rfl) (Sub.cons (d := 63) (hp1198.nt 11 63 rfl rfl rfl) (Sub.cons (d := 64) (hp1198.nt 12 64 rfl rfl rfl) (Sub.cons (d := 67) (hp1198.nt 15 67 rfl rfl rfl) (Sub.cons (d := 68) (hp1198.nt 16 68 rfl rfl rfl) (Sub.cons (d := 69) (hp1198.nt 17 69 rfl rfl rfl) (Sub.cons (d := 70) (hp1198.nt 18 70 rfl rfl rfl) (Sub.cons (d := 73) (hp1198.nt 21 73 rfl rfl rfl) (Sub.cons (d := 74) (hp1198.nt 22 74 rfl rfl rfl) (Sub.cons (d := 75) (hp1198.nt 23 75 rfl rfl rfl) (Sub.cons (d := 76) (hp1198.nt 24 76 rfl rfl rfl) (Sub.cons (d := 77) (hp1198.nt 25 77 rfl rfl rfl) (Sub.cons (d := 78) (hp1198.nt 26 78 rfl rfl rfl) (Sub.cons (d := 79) (hp1198.nt 27 79 rfl rfl rfl) (Sub.cons (d := 80) (hp1198.nt 28 80 rfl rfl rfl) (Sub.cons (d := 81) (hp1198.nt 29 81 rfl rfl rfl) (Sub.cons (d := 82) (hp1198.nt 30 82 rfl rfl rfl) (Sub.cons (d := 83) (hp1198.nt 31 83 rfl rfl rfl) (Sub.cons (d := 84) (hp1198.nt 32 84 rfl rfl rfl) (Sub.cons (d := 85) (hp1198.nt 33 85 rfl rfl rfl) (Sub.cons (d := 86) (hp1198.nt 34 86 rfl rfl rfl) (Sub.cons (d := 87) (hp1198.nt 35 87 rfl rfl rfl) (Sub.nil _)))))))))))))))))))))))))))))))) ?_))
           refine CW.cond_t rfl rfl (CW.seq (CW.region (sd rfl (yl_assign rfl rfl (SeqR.done (tn (CW.ret (br (tr ?_)))))))))
           refine tr ?_
           have hB1234 : B_i_GoodTable_1 p_0 k91 () = .ret false := by simp only [B_i_GoodTable_1, hb16, hb21, hb23, hb159, hb164, hL90, cond_true, cond_false, loopE_done, loopE_ret]
           have hL1233 : loopM (B_i_GoodTable_1 p_0) (p_0.Idxs.length - 0) 0 () = .ret false := hI136.symm.trans (loopM.ret hlt147 hB1234)
           refine br (tr (rr rfl (.cons rfl .nil) ?_))
           have hM1235 : (i_GoodTable p_0) = (false) := by simp only [i_GoodTable, hb16, hb21, hb23, hb159, hb164, hL90, hL1233, cond_true, cond_false, loopE_done, loopE_ret]
           rw [hM1235]
           exact ⟨rfl, (Ex.trans (Below.only (Ex.trans hf145 hE154) hO157 (by omega)) hE1201)⟩
        ·refine CW.drawsI 36 (vgetI [DetI (.pointer (some ⟨b149, 0 + 0, none⟩)), DetI (.string (bs ((p_0.Idxs.getD k91 d_Idx).Name))), DetI (.bool ((i_areLetters ((p_0.Idxs.getD k91 d_Idx).Name) 1))), DetI (.bool (!(i_areLetters ((p_0.Idxs.getD k91 d_Idx).Name) 1))), DetI (.bool (!(i_areLetters ((p_0.Idxs.getD k91 d_Idx).Name) 1))), DetI (undef), DetI (undef), DetI (undef), DetI (undef), DetI (undef), DetI (undef), DetI (undef), DetI (undef), DetI (.bool (true)), DetI (.bool (true)), DetI (undef), DetI (undef), DetI (undef), DetI (undef), DetI (.bool (true)), DetI (.bool (true)), DetI (undef), DetI (undef), DetI (undef), DetI (undef), DetI (undef), DetI (undef), DetI (undef), DetI (undef), DetI (undef), DetI (undef), DetI (undef), DetI (undef), DetI (undef), DetI (undef), DetI (.bool (true))]) Try.follows rfl rfl rfl rfl rfl rfl (vgetI_stable ⟨StableI.det _, StableI.det _, StableI.det _, StableI.det _, StableI.det _, StableI.det _, StableI.det _, StableI.det _, StableI.det _, StableI.det _, StableI.det _, StableI.det _, StableI.det _, StableI.det _, StableI.det _, StableI.det _, StableI.det _, StableI.det _, StableI.det _, StableI.det _, StableI.det _, StableI.det _, StableI.det _, StableI.det _, StableI.det _, StableI.det _, StableI.det _, StableI.det _, StableI.det _, StableI.det _, StableI.det _, StableI.det _, StableI.det _, StableI.det _, StableI.det _, StableI.det _, trivial⟩) ⟨?_, ?_, ?_, ?_, ?_, ?_, ?_, ?_, ?_, ?_, ?_, ?_, ?_, ?_, ?_, ?_, ?_, ?_, ?_, ?_, ?_, ?_, ?_, ?_, ?_, ?_, ?_, ?_, ?_, ?_, ?_, ?_, ?_, ?_, ?_, ?_, trivial⟩ ?_
         ·exact fun _ _ h => os rfl ((yl_fieldAddr Try.fd152_0 rfl (h.old 6 _ rfl rfl) kI))
         ·exact fun _ _ h => os rfl ((yl_load1 Try.ty9 rfl (h.dt 0 52 rfl rfl rfl) (((Box.ex hB156 h.ex).cell 0).trans rfl) kI))
         ·intro L1251 w1252 hi1253
          refine OpR.op' rfl (yl_call Try.en210 rfl (opvs_cons (hi1253.dt 1 53 rfl rfl rfl) (opvs_cons rfl opvs_nil)) (Cal.mono (c_i_areLetters ((p_0.Idxs.getD k91 d_Idx).Name) 1 (okL.getD o3.2.2 ok_d_Idx _)) ?_))
          rintro v1257 w1256 ⟨rfl, hE1258⟩
          exact ⟨rfl, hE1258⟩
         ·exact fun _ _ h => os rfl ((yl_not rfl (h.dt 2 54 rfl rfl rfl) kI))
         ·exact fun _ _ h => os rfl ((yl_move rfl (h.dt 3 55 rfl rfl rfl) kI))
         ·exact fun _ _ h => OpR.skip rfl rfl (h.dt 4 56 rfl rfl rfl) (not_f hb159) ⟨rfl, Ex.refl _⟩
         ·exact fun _ _ h => OpR.skip rfl rfl (h.dt 4 56 rfl rfl rfl) (not_f hb159) ⟨rfl, Ex.refl _⟩
         ·exact fun _ _ h => OpR.skip rfl rfl (h.dt 4 56 rfl rfl rfl) (not_f hb159) ⟨rfl, Ex.refl _⟩
         ·exact fun _ _ h => OpR.skip rfl rfl (h.dt 4 56 rfl rfl rfl) (not_f hb159) ⟨rfl, Ex.refl _⟩
         ·exact fun _ _ h => OpR.skip rfl rfl (h.dt 4 56 rfl rfl rfl) (not_f hb159) ⟨rfl, Ex.refl _⟩
         ·exact fun _ _ h => OpR.skip rfl rfl (h.dt 4 56 rfl rfl rfl) (not_f hb159) ⟨rfl, Ex.refl _⟩
         ·exact fun _ _ h => OpR.skip rfl rfl (h.dt 4 56 rfl rfl rfl) (not_f hb159) ⟨rfl, Ex.refl _⟩
         ·exact fun _ _ h => OpR.skip rfl rfl (h.dt 4 56 rfl rfl rfl) (not_f hb159) ⟨rfl, Ex.refl _⟩
         ·exact fun _ _ h => os rfl ((yl_pick_t rfl (h.dt 4 56 rfl rfl rfl) (not_f hb159) rfl kI))
         ·exact fun _ _ h => os rfl ((yl_move rfl (h.dt 13 65 rfl rfl rfl) kI))
         ·exact fun _ _ h => OpR.skip rfl rfl (h.dt 14 66 rfl rfl rfl) rfl ⟨rfl, Ex.refl _⟩
         ·exact fun _ _ h => OpR.skip rfl rfl (h.dt 14 66 rfl rfl rfl) rfl ⟨rfl, Ex.refl _⟩
         ·exact fun _ _ h => OpR.skip rfl rfl (h.dt 14 66 rfl rfl rfl) rfl ⟨rfl, Ex.refl _⟩
         ·exact fun _ _ h => OpR.skip rfl rfl (h.dt 14 66 rfl rfl rfl) rfl ⟨rfl, Ex.refl _⟩
         ·exact fun _ _ h => os rfl ((yl_pick_t rfl (h.dt 14 66 rfl rfl rfl) rfl rfl kI))
         ·exact fun _ _ h => os rfl ((yl_move rfl (h.dt 19 71 rfl rfl rfl) kI))
         ·exact fun _ _ h => OpR.skip rfl rfl (h.dt 20 72 rfl rfl rfl) rfl ⟨rfl, Ex.refl _⟩
         ·exact fun _ _ h => OpR.skip rfl rfl (h.dt 20 72 rfl rfl rfl) rfl ⟨rfl, Ex.refl _⟩
         ·exact fun _ _ h => OpR.skip rfl rfl (h.dt 20 72 rfl rfl rfl) rfl ⟨rfl, Ex.refl _⟩
         ·exact fun _ _ h => OpR.undef rfl rfl (h.dt 23 75 rfl rfl rfl) ⟨rfl, Ex.refl _⟩
         ·exact fun _ _ h => OpR.undef rfl rfl (h.dt 23 75 rfl rfl rfl) ⟨rfl, Ex.refl _⟩
         ·exact fun _ _ h => OpR.undef rfl rfl (h.dt 23 75 rfl rfl rfl) ⟨rfl, Ex.refl _⟩
         ·exact fun _ _ h => OpR.undef rfl rfl (h.dt 23 75 rfl rfl rfl) ⟨rfl, Ex.refl _⟩
         ·exact fun _ _ h => OpR.undef rfl rfl (h.dt 23 75 rfl rfl rfl) ⟨rfl, Ex.refl _⟩
         ·exact fun _ _ h => OpR.undef rfl rfl (h.dt 23 75 rfl rfl rfl) ⟨rfl, Ex.refl _⟩
         ·exact fun _ _ h => OpR.undef rfl rfl (h.dt 23 75 rfl rfl rfl) ⟨rfl, Ex.refl _⟩
         ·exact fun _ _ h => OpR.undef rfl rfl (h.dt 23 75 rfl rfl rfl) ⟨rfl, Ex.refl _⟩
         ·exact fun _ _ h => OpR.undef rfl rfl (h.dt 23 75 rfl rfl rfl) ⟨rfl, Ex.refl _⟩
         ·exact fun _ _ h => OpR.undef rfl rfl (h.dt 23 75 rfl rfl rfl) ⟨rfl, Ex.refl _⟩
         ·exact fun _ _ h => OpR.skip rfl rfl (h.dt 20 72 rfl rfl rfl) rfl ⟨rfl, Ex.refl _⟩
         ·exact fun _ _ h => os rfl ((yl_pick_t rfl (h.dt 20 72 rfl rfl rfl) rfl rfl kI))
         ·intro fl1430 fh1431 L1427 w1428 hp1429
          have hE1432 := hp1429.ex
          have hE1432z := Ex.size hE1432
          refine SeqR.done (tn (CW.sub (Sub.cons (d := 1) (hp1429.old 1 _ rfl rfl) (Sub.cons (d := 45) (hp1429.old 45 _ rfl rfl) (Sub.cons (d := 46) (hp1429.old 46 _ rfl rfl) (Sub.cons (d := 47) (hp1429.old 47 _ rfl rfl) (Sub.cons (d := 57) (hp1429.nt 5 57 rfl rfl rfl) (Sub.cons (d := 58) (hp1429.nt 6 58 rfl rfl rfl) (Sub.cons (d := 59) (hp1429.nt 7 59 rfl rfl rfl) (Sub.cons (d := 60) (hp1429.nt 8 60 rfl rfl rfl) (Sub.cons (d := 61) (hp1429.nt 9 61 rfl rfl rfl) (Sub.cons (d := 62) (hp1429.nt 10 62 rfl rfl rfl) (Sub.cons (d := 63) (hp1429.nt 11 63 rfl rfl rfl) (Sub.cons (d := 64) (hp1429.nt 12 64 rfl rfl rfl) (Sub.cons (d := 67) (hp1429.nt 15 67 rfl rfl rfl) (Sub.cons (d := 68) (hp1429.nt 16 68 rfl rfl rfl) (Sub.cons (d := 69) (hp1429.nt 17 69 rfl rfl rfl) (Sub.cons (d := 70) (hp1429.nt 18 70 rfl rfl rfl) (Sub.cons (d := 73) (hp1429.nt 21 73 rfl rfl rfl) (Sub.cons (d := 74) (hp1429.nt 22 74 rfl rfl rfl) (Sub.cons (d := 75) (hp1429.nt 23 75 rfl rfl rfl) (Sub.cons (d := 76) (hp1429.nt 24 76 rfl rfl rfl) (Sub.cons (d := 77) (hp1429.nt 25 77 rfl rfl rfl) (Sub.cons (d := 78) (hp1429.nt 26 78 rfl rfl rfl) (Sub.cons (d := 79) (hp1429.nt 27 79 rfl rfl rfl) (Sub.cons (d := 80) (hp1429.nt 28 80 rfl rfl rfl) (Sub.cons (d := 81) (hp1429.nt 29 81 rfl rfl rfl) (Sub.cons (d := 82) (hp1429.nt 30 82 rfl rfl rfl) (Sub.cons (d := 83) (hp1429.nt 31 83 rfl rfl rfl) (Sub.cons (d := 84) (hp1429.nt 32 84 rfl rfl rfl) (Sub.cons (d := 85) (hp1429.nt 33 85 rfl rfl rfl) (Sub.cons (d := 86) (hp1429.nt 34 86 rfl rfl rfl) (Sub.cons (d := 87) (hp1429.nt 35 87 rfl rfl rfl) (Sub.nil _)))))))))))))))))))))))))))))))) ?_))
          refine CW.cond_t rfl rfl (CW.seq (CW.region (sd rfl (yl_assign rfl rfl (SeqR.done (tn (CW.ret (br (tr ?_)))))))))
          refine tr ?_
          have hB1465 : B_i_GoodTable_1 p_0 k91 () = .ret false := by simp only [B_i_GoodTable_1, hb16, hb21, hb23, hb159, hL90, cond_true, cond_false, loopE_done, loopE_ret]
          have hL1464 : loopM (B_i_GoodTable_1 p_0) (p_0.Idxs.length - 0) 0 () = .ret false := hI136.symm.trans (loopM.ret hlt147 hB1465)
          refine br (tr (rr rfl (.cons rfl .nil) ?_))
          have hM1466 : (i_GoodTable p_0) = (false) := by simp only [i_GoodTable, hb16, hb21, hb23, hb159, hL90, hL1464, cond_true, cond_false, loopE_done, loopE_ret]
          rw [hM1466]
          exact ⟨rfl, (Ex.trans (Below.only (Ex.trans hf145 hE154) hO157 (by omega)) hE1432)⟩
       ·refine CW.seq (CW.region (sd rfl (yl_lss rfl rfl rfl (SeqR.done (tn (CW.seq (CW.cond_f rfl (lt_f hlt147) (CW.exit (tx ?_)))))))))
        refine tx ?_
        have hL1470 : loopM (B_i_GoodTable_1 p_0) (p_0.Idxs.length - 0) 0 () = .done () := hI136.symm.trans (loopM.stop hlt147)
        refine bx (tn (CW.seq (CW.region (sd rfl (yl_assign rfl rfl (SeqR.done (tn (CW.ret (rr rfl (.cons rfl .nil) ?_)))))))))
        have hM1471 : (i_GoodTable p_0) = (true) := by simp only [i_GoodTable, hb16, hb21, hb23, hL90, hL1470, cond_true, cond_false, loopE_done, loopE_ret]
        rw [hM1471]
        exact ⟨rfl, hf145⟩
  ·refine sz rfl rfl (not_f hb21) (sz rfl rfl (not_f hb21) (sz rfl rfl (not_f hb21) (sz rfl rfl (not_f hb21) (sd rfl (yl_pick_t rfl rfl (not_f hb21) rfl (SeqR.done (tn (CW.cond_t rfl rfl (CW.seq ?_)))))))))
   refine CW.region (sd rfl (yl_assign rfl rfl (SeqR.done (tn (CW.ret (tr (rr rfl (.cons rfl .nil) ?_)))))))
   have hM1472 : (i_GoodTable p_0) = (false) := by simp only [i_GoodTable, hb16, hb21, cond_true, cond_false, loopE_done, loopE_ret]
   rw [hM1472]
   exact ⟨rfl, (Ex.trans (Ex.trans (Ex.trans (Ex.refl w) hE12) hE15) hE20)⟩
 ·refine sz rfl rfl (not_f hb16) (sz rfl rfl (not_f hb16) (sz rfl rfl (not_f hb16) (sz rfl rfl (not_f hb16) (sz rfl rfl (not_f hb16) (sd rfl (yl_pick_t rfl rfl (not_f hb16) rfl (sd rfl (yl_move rfl rfl (sz rfl rfl rfl (sz rfl rfl rfl ?_))))))))))
  refine sz rfl rfl rfl (sz rfl rfl rfl (sd rfl (yl_pick_t rfl rfl rfl rfl (SeqR.done (tn (CW.cond_t rfl rfl (CW.seq (CW.region (sd rfl (yl_assign rfl rfl ?_))))))))))
  refine SeqR.done (tn (CW.ret (tr (rr rfl (.cons rfl .nil) ?_))))
  have hM1476 : (i_GoodTable p_0) = (false) := by simp only [i_GoodTable, hb16, cond_true, cond_false, loopE_done, loopE_ret]
  rw [hM1476]
  exact ⟨rfl, (Ex.trans (Ex.trans (Ex.refl w) hE12) hE15)⟩
set_option maxRecDepth 100000 in
set_option maxHeartbeats 2000000 in
theorem c_g_slices_IndexFunc_string {A1 : Option Addr} {c1 : Nat} {g3 : Nat} {cp4 : List Value} {w : World} (p_s : List Str) (p_f : Str → Bool) (h1 : RdS w (Iv 0 w.heap.size) (RF e_Str) 1 A1 p_s.length c1 p_s) (hen5 : Go.X.Enters Try.prog g3) (hfn6 : ∀ (w1 : World) (y0 : Str), Ex w w1 → y0 ∈ p_s → okS y0 → Cal Try.prog g3 (([.string (bs (y0))] : List Value) ++ cp4).toArray w1 fun v w2 => v = .bool (p_f y0) ∧ Ex w1 w2) (o2 : (okL okS) p_s) : Cal Try.prog 239 #[.slice A1 p_s.length c1, .func (.func g3) #[] cp4.toArray] w fun v w' => v = .int .i64 ((g_slices_IndexFunc_string p_s p_f)) ∧ Ex w w' := by
 have hol7 := o2.1
 refine Cal.of (vs := [.slice A1 p_s.length c1, .func (.func g3) #[] cp4.toArray]) Try.func239 rfl Try.ntmps239 rfl (CW.seq (CW.region (sd rfl (yl_assign rfl rfl (SeqR.done (tn (CW.seq (CW.seq (CW.region ?_)))))))))
 refine sd rfl (yl_move rfl rfl (sd rfl (yl_len Try.un52 rfl rfl (sd rfl (yl_move rfl rfl (SeqR.done (tn (CW.block (CW.loop (fun m9 L10 w11 => ∃ (k8 : Nat), m9 = p_s.length - k8 ∧ k8 ≤ p_s.length ∧ w.heap.size ≤ w11.heap.size ∧ lkp L10 0 = some (.slice A1 p_s.length c1) ∧ lkp L10 1 = some (.func (.func g3) #[] cp4.toArray) ∧ lkp L10 7 = some (.int .i64 ((p_s.length : Int))) ∧ lkp L10 8 = some (.int .i64 ((k8 : Int))) ∧ RdS w11 (Iv 0 w.heap.size) (RF e_Str) 1 A1 p_s.length c1 p_s ∧ Ex w w11 ∧ loopM (B_g_slices_IndexFunc_string_0 p_s p_f) (p_s.length - k8) k8 () = loopM (B_g_slices_IndexFunc_string_0 p_s p_f) (p_s.length - 0) 0 ()) (p_s.length - 0) ?_ ?_)))))))))
 ·exact ⟨0, rfl, (by omega), Nat.le_refl _, rfl, rfl, rfl, rfl, h1, (Ex.refl w), rfl⟩
 ·rintro m12 L13 w14 ⟨k8, rfl, hk15, hsz17, hl18, hl19, hl20, hl21, hf22, hf23, hI16⟩
  refine CW.sub (Sub.cons hl18 (Sub.cons hl19 (Sub.cons hl20 (Sub.cons hl21 (Sub.nil _))))) ?_
  have hf23z := Ex.size hf23
  have hbg24 := RdS.big hf22
  rcases Nat.lt_or_ge k8 p_s.length with hlt25 | hlt25
  ·refine CW.seq (CW.region (sd rfl (yl_lss rfl rfl rfl (SeqR.done (tn (CW.seq (CW.cond_t rfl (lt_t hlt25) (CW.skip (tn ?_)))))))))
   refine CW.seq (CW.block (CW.seq (CW.region (sd rfl (yl_move rfl rfl (sd rfl (yl_assign rfl rfl (SeqR.done (tn (CW.seq ?_))))))))))
   refine CW.region (sd rfl (yl_move rfl rfl (sd rfl (yl_move rfl rfl (sd rfl (yl_move rfl rfl ?_))))))
   obtain ⟨eb26, eo26, ec26, eA26, eS26, ebl26, el26, eR26, eC26⟩ := RdS.atD hf22 d_Str (i := k8) (by first | omega | assumption)
   obtain rfl := eR26
   have eC26 : Cells w14 eb26 (eo26 + k8 * 1) [.string (bs ((p_s.getD k8 d_Str)))] := eC26
   refine sd rfl (yl_indexAddrN Try.un52 Try.ty9 rfl rfl rfl eA26 (by first | omega | assumption | (simp only [IntKind.wrap_i64] at *; omega)) (sd rfl (yl_load1 Try.ty9 rfl rfl (eC26 0 _ rfl) (sd rfl (yl_callv hen5 rfl rfl (opvs_cons rfl opvs_nil) (Cal.mono (hfn6 w14 (p_s.getD k8 d_Str) hf23 (getD_mem (by omega)) (okL.getD o2 ok_d_Str _)) ?_))))))
   rintro v28 w27 ⟨rfl, hE29⟩
   have hE29z := Ex.size hE29
   refine SeqR.done (tn (bcase (p_f (p_s.getD k8 d_Str)) (fun hb30 => ?_) (fun hb30 => ?_)))
   ·refine CW.cond_t rfl hb30 (CW.seq (CW.region (sd rfl (yl_move rfl rfl (sd rfl (yl_assign rfl rfl (SeqR.done (tn (CW.ret (br ?_))))))))))
    refine tr (tr ?_)
    have hB32 : B_g_slices_IndexFunc_string_0 p_s p_f k8 () = .ret (k8 : Int) := by simp only [B_g_slices_IndexFunc_string_0, hb30, cond_true, cond_false, loopE_done, loopE_ret]
    have hL31 : loopM (B_g_slices_IndexFunc_string_0 p_s p_f) (p_s.length - 0) 0 () = .ret (k8 : Int) := hI16.symm.trans (loopM.ret hlt25 hB32)
    refine br (tr (rr rfl (.cons rfl .nil) ?_))
    have hM33 : (g_slices_IndexFunc_string p_s p_f) = ((k8 : Int)) := by simp only [g_slices_IndexFunc_string, hb30, hL31, cond_true, cond_false, loopE_done, loopE_ret]
    rw [hM33]
    exact ⟨rfl, (Ex.trans hf23 hE29)⟩
   ·refine CW.cond_f rfl hb30 (CW.skip (bn (tn (CW.region (sd rfl (yl_inc rfl rfl rfl (by omega) (sd rfl (yl_move rfl rfl (SeqR.done (tn ?_))))))))))
    have hB35 : B_g_slices_IndexFunc_string_0 p_s p_f k8 () = .cont () := by simp only [B_g_slices_IndexFunc_string_0, hb30, cond_true, cond_false, loopE_done, loopE_ret]
    exact ⟨p_s.length - (k8 + 1), by omega, k8 + 1, rfl, hlt25, (by omega), rfl, rfl, rfl, rfl, (RdS.ex good_Str hf22 hE29), (Ex.trans hf23 hE29), (loopM.cont hlt25 hB35).symm.trans hI16⟩
  ·refine CW.seq (CW.region (sd rfl (yl_lss rfl rfl rfl (SeqR.done (tn (CW.seq (CW.cond_f rfl (lt_f hlt25) (CW.exit (tx ?_)))))))))
   refine tx ?_
   have hL38 : loopM (B_g_slices_IndexFunc_string_0 p_s p_f) (p_s.length - 0) 0 () = .done () := hI16.symm.trans (loopM.stop hlt25)
   refine bx (tn (CW.seq (CW.region (sd rfl (yl_assign rfl rfl (SeqR.done (tn (CW.ret (rr rfl (.cons rfl .nil) ?_)))))))))
   have hM39 : (g_slices_IndexFunc_string p_s p_f) = (-1) := by simp only [g_slices_IndexFunc_string, hL38, cond_true, cond_false, loopE_done, loopE_ret]
   rw [hM39]
   exact ⟨rfl, hf23⟩
set_option maxRecDepth 100000 in
set_option maxHeartbeats 2000000 in
theorem c_g_slices_ContainsFunc_string {A1 : Option Addr} {c1 : Nat} {g3 : Nat} {cp4 : List Value} {w : World} (p_s : List Str) (p_f : Str → Bool) (h1 : RdS w (Iv 0 w.heap.size) (RF e_Str) 1 A1 p_s.length c1 p_s) (hen5 : Go.X.Enters Try.prog g3) (hfn6 : ∀ (w1 : World) (y0 : Str), Ex w w1 → y0 ∈ p_s → okS y0 → Cal Try.prog g3 (([.string (bs (y0))] : List Value) ++ cp4).toArray w1 fun v w2 => v = .bool (p_f y0) ∧ Ex w1 w2) (o2 : (okL okS) p_s) : Cal Try.prog 213 #[.slice A1 p_s.length c1, .func (.func g3) #[] cp4.toArray] w fun v w' => v = .bool ((g_slices_ContainsFunc_string p_s p_f)) ∧ Ex w w' := by
 have hol7 := o2.1
 refine Cal.of (vs := [.slice A1 p_s.length c1, .func (.func g3) #[] cp4.toArray]) Try.func213 rfl Try.ntmps213 rfl (CW.seq (CW.region (sd rfl (yl_assign rfl rfl (SeqR.done (tn (CW.seq (CW.region (sd rfl (yl_move rfl rfl ?_))))))))))
 refine sd rfl (yl_move rfl rfl (sd rfl (yl_call Try.en239 rfl (opvs_cons rfl (opvs_cons rfl opvs_nil)) (Cal.mono (c_g_slices_IndexFunc_string p_s p_f (RdS.up h1 good_Str) hen5 (fun w1 y0 => fun hE => hfn6 w1 y0 (Ex.trans (Ex.refl w) hE)) o2) ?_))))
 rintro v9 w8 ⟨rfl, hE10⟩
 have hE10z := Ex.size hE10
 refine sd rfl (yl_geq rfl rfl rfl (sd rfl (yl_assign rfl rfl (SeqR.done (tn (CW.ret (rr rfl (.cons rfl .nil) ?_)))))))
 have hM11 : (g_slices_ContainsFunc_string p_s p_f) = (decide (0 ≤ (g_slices_IndexFunc_string p_s p_f))) := by simp only [g_slices_ContainsFunc_string, cond_true, cond_false, loopE_done, loopE_ret]
 rw [hM11]
 exact ⟨rfl, (Ex.trans (Ex.refl w) hE10)⟩
set_option maxRecDepth 100000 in
set_option maxHeartbeats 2000000 in
theorem c_i_isLowerOrDigit {w : World} (p_b : Int) : Cal Try.prog 249 #[.int .u8 (p_b)] w fun v w' => v = .bool ((i_isLowerOrDigit p_b)) ∧ Ex w w' := by
 refine Cal.of (vs := [.int .u8 (p_b)]) Try.func249 rfl Try.ntmps249 rfl (CW.seq (CW.region (sd rfl (yl_assign rfl rfl (SeqR.done (tn (CW.seq (CW.region (sd rfl (yl_move rfl rfl ?_))))))))))
 refine sd rfl (yl_geq rfl rfl rfl (sd rfl (yl_move rfl rfl (bcase (decide (97 ≤ p_b)) (fun hb1 => ?_) (fun hb1 => ?_)))))
 ·have hb1p := dec_t hb1
  refine sy rfl rfl hb1 (yl_move rfl rfl (sy rfl rfl hb1 (yl_leq rfl rfl rfl (sd rfl (yl_pick_t rfl rfl hb1 rfl (sd rfl (yl_move rfl rfl (bcase (decide (p_b ≤ 122)) (fun hb2 => ?_) (fun hb2 => ?_)))))))))
  ·have hb2p := dec_t hb2
   refine sz rfl rfl hb2 (sz rfl rfl hb2 (sz rfl rfl hb2 (sq rfl rfl (sq rfl rfl (sz rfl rfl hb2 (sd rfl (yl_pick_t rfl rfl hb2 rfl (sd rfl (yl_assign rfl rfl (SeqR.done ?_))))))))))
   refine tn (CW.ret (rr rfl (.cons rfl .nil) ?_))
   have hM3 : (i_isLowerOrDigit p_b) = (true) := by simp only [i_isLowerOrDigit, hb1, hb2, cond_true, cond_false, loopE_done, loopE_ret]
   rw [hM3]
   exact ⟨rfl, (Ex.refl w)⟩
  ·have hb2p := dec_f hb2
   refine sy rfl rfl hb2 (yl_move rfl rfl (sy rfl rfl hb2 (yl_geq rfl rfl rfl (sy rfl rfl hb2 (yl_move rfl rfl (bcase (decide (48 ≤ p_b)) (fun hb4 => ?_) (fun hb4 => ?_)))))))
   ·have hb4p := dec_t hb4
    refine sy rfl rfl hb4 (yl_move rfl rfl (sy rfl rfl hb4 (yl_leq rfl rfl rfl (sy rfl rfl hb2 (yl_pick_t rfl rfl hb4 rfl (sd rfl (yl_pick_f rfl rfl hb2 rfl (sd rfl (yl_assign rfl rfl (SeqR.done (tn (CW.ret (rr rfl (.cons rfl .nil) ?_)))))))))))))
    have hM5 : (i_isLowerOrDigit p_b) = (decide (p_b ≤ 57)) := by simp only [i_isLowerOrDigit, hb1, hb2, hb4, cond_true, cond_false, loopE_done, loopE_ret]
    rw [hM5]
    exact ⟨rfl, (Ex.refl w)⟩
   ·have hb4p := dec_f hb4
    refine sz rfl rfl hb4 (sz rfl rfl hb4 (sy rfl rfl hb2 (yl_pick_f rfl rfl hb4 rfl (sd rfl (yl_pick_f rfl rfl hb2 rfl (sd rfl (yl_assign rfl rfl (SeqR.done (tn (CW.ret (rr rfl (.cons rfl .nil) ?_)))))))))))
    have hM6 : (i_isLowerOrDigit p_b) = (false) := by simp only [i_isLowerOrDigit, hb1, hb2, hb4, cond_true, cond_false, loopE_done, loopE_ret]
    rw [hM6]
    exact ⟨rfl, (Ex.refl w)⟩
 ·have hb1p := dec_f hb1
  refine sz rfl rfl hb1 (sz rfl rfl hb1 (sd rfl (yl_pick_f rfl rfl hb1 rfl (sd rfl (yl_move rfl rfl (sy rfl rfl rfl (yl_move rfl rfl (sy rfl rfl rfl (yl_geq rfl rfl rfl (sy rfl rfl rfl (yl_move rfl rfl (bcase (decide (48 ≤ p_b)) (fun hb7 => ?_) (fun hb7 => ?_)))))))))))))
  ·have hb7p := dec_t hb7
   refine sy rfl rfl hb7 (yl_move rfl rfl (sy rfl rfl hb7 (yl_leq rfl rfl rfl (sy rfl rfl rfl (yl_pick_t rfl rfl hb7 rfl (sd rfl (yl_pick_f rfl rfl rfl rfl (sd rfl (yl_assign rfl rfl (SeqR.done (tn (CW.ret (rr rfl (.cons rfl .nil) ?_)))))))))))))
   have hM8 : (i_isLowerOrDigit p_b) = (decide (p_b ≤ 57)) := by simp only [i_isLowerOrDigit, hb1, hb7, cond_true, cond_false, loopE_done, loopE_ret]
   rw [hM8]
   exact ⟨rfl, (Ex.refl w)⟩
  ·have hb7p := dec_f hb7
   refine sz rfl rfl hb7 (sz rfl rfl hb7 (sy rfl rfl rfl (yl_pick_f rfl rfl hb7 rfl (sd rfl (yl_pick_f rfl rfl rfl rfl (sd rfl (yl_assign rfl rfl (SeqR.done (tn (CW.ret (rr rfl (.cons rfl .nil) ?_)))))))))))
   have hM9 : (i_isLowerOrDigit p_b) = (false) := by simp only [i_isLowerOrDigit, hb1, hb7, cond_true, cond_false, loopE_done, loopE_ret]
   rw [hM9]
   exact ⟨rfl, (Ex.refl w)⟩
set_option maxRecDepth 100000 in
set_option maxHeartbeats 2000000 in
theorem c_g_internal_stringslite_IndexByte {w : World} (p_s : Str) (p_c : Int) (o1 : okS p_s) : Cal Try.prog 257 #[.string (bs (p_s)), .int .u8 (p_c)] w fun v w' => v = .int .i64 ((g_internal_stringslite_IndexByte p_s p_c)) ∧ Ex w w' := by
 have hol2 : p_s.length ≤ 1073741824 := o1
 refine Cal.of (vs := [.string (bs (p_s)), .int .u8 (p_c)]) Try.func257 rfl Try.ntmps257 rfl (CW.seq (CW.region (sd rfl (yl_assign rfl rfl (SeqR.done (tn (CW.seq (CW.region (sd rfl (yl_move rfl rfl ?_))))))))))
 refine sd rfl (yl_move rfl rfl (sd rfl (yl_idxB (s := p_s) (c := p_c) Try.ex263 rfl (opvs_cons rfl (opvs_cons rfl opvs_nil)) (sd rfl (yl_assign rfl rfl (SeqR.done (tn (CW.ret (rr rfl (.cons rfl .nil) ?_)))))))))
 have hM3 : (g_internal_stringslite_IndexByte p_s p_c) = (idxB p_s p_c) := by simp only [g_internal_stringslite_IndexByte, cond_true, cond_false, loopE_done, loopE_ret]
 rw [hM3]
 exact ⟨rfl, (Ex.refl w)⟩
set_option maxRecDepth 100000 in
set_option maxHeartbeats 2000000 in
theorem c_g_strings_IndexByte {w : World} (p_s : Str) (p_c : Int) (o1 : okS p_s) : Cal Try.prog 250 #[.string (bs (p_s)), .int .u8 (p_c)] w fun v w' => v = .int .i64 ((g_strings_IndexByte p_s p_c)) ∧ Ex w w' := by
 have hol2 : p_s.length ≤ 1073741824 := o1
 refine Cal.of (vs := [.string (bs (p_s)), .int .u8 (p_c)]) Try.func250 rfl Try.ntmps250 rfl (CW.seq (CW.region (sd rfl (yl_assign rfl rfl (SeqR.done (tn (CW.seq (CW.region (sd rfl (yl_move rfl rfl ?_))))))))))
 refine sd rfl (yl_move rfl rfl (sd rfl (yl_call Try.en257 rfl (opvs_cons rfl (opvs_cons rfl opvs_nil)) (Cal.mono (c_g_internal_stringslite_IndexByte p_s p_c o1) ?_))))
 rintro v4 w3 ⟨rfl, hE5⟩
 have hE5z := Ex.size hE5
 refine sd rfl (yl_assign rfl rfl (SeqR.done (tn (CW.ret (rr rfl (.cons rfl .nil) ?_)))))
 have hM6 : (g_strings_IndexByte p_s p_c) = ((g_internal_stringslite_IndexByte p_s p_c)) := by simp only [g_strings_IndexByte, cond_true, cond_false, loopE_done, loopE_ret]
 rw [hM6]
 exact ⟨rfl, (Ex.trans (Ex.refl w) hE5)⟩
set_option maxRecDepth 100000 in
set_option maxHeartbeats 2000000 in
theorem c_i_hasBytes {w : World} (p_s : Str) (p_others : Str) (o1 : okS p_s) (o2 : okS p_others) : Cal Try.prog 235 #[.string (bs (p_s)), .string (bs (p_others))] w fun v w' => v = .bool ((i_hasBytes p_s p_others)) ∧ Ex w w' := by
 have hol3 : p_s.length ≤ 1073741824 := o1
 have hol4 : p_others.length ≤ 1073741824 := o2
 refine Cal.of (vs := [.string (bs (p_s)), .string (bs (p_others))]) Try.func235 rfl Try.ntmps235 rfl (CW.seq (CW.region (sd rfl (yl_assign rfl rfl (SeqR.done (tn (CW.seq (CW.seq (CW.region ?_)))))))))
 refine sd rfl (yl_move rfl rfl (sd rfl (yl_slen Try.un9 (a := p_s) rfl rfl (sd rfl (yl_move rfl rfl (SeqR.done (tn (CW.block (CW.loop (fun m6 L7 w8 => ∃ (k5 : Nat), m6 = p_s.length - k5 ∧ k5 ≤ p_s.length ∧ w.heap.size ≤ w8.heap.size ∧ lkp L7 0 = some (.string (bs (p_s))) ∧ lkp L7 1 = some (.string (bs (p_others))) ∧ lkp L7 7 = some (.int .i64 ((p_s.length : Int))) ∧ lkp L7 8 = some (.int .i64 ((k5 : Int))) ∧ Ex w w8 ∧ loopM (B_i_hasBytes_0 p_s p_others) (p_s.length - k5) k5 () = loopM (B_i_hasBytes_0 p_s p_others) (p_s.length - 0) 0 ()) (p_s.length - 0) ?_ ?_)))))))))
 ·exact ⟨0, rfl, (by omega), Nat.le_refl _, rfl, rfl, rfl, rfl, (Ex.refl w), rfl⟩
 ·rintro m9 L10 w11 ⟨k5, rfl, hk12, hsz14, hl15, hl16, hl17, hl18, hf19, hI13⟩
  refine CW.sub (Sub.cons hl15 (Sub.cons hl16 (Sub.cons hl17 (Sub.cons hl18 (Sub.nil _))))) ?_
  have hf19z := Ex.size hf19
  have hbg20 : p_s.length ≤ 1073741824 := o1
  rcases Nat.lt_or_ge k5 p_s.length with hlt21 | hlt21
  ·refine CW.seq (CW.region (sd rfl (yl_lss rfl rfl rfl (SeqR.done (tn (CW.seq (CW.cond_t rfl (lt_t hlt21) (CW.skip (tn ?_)))))))))
   refine CW.seq (CW.block (CW.seq (CW.region (sd rfl (yl_move rfl rfl (sd rfl (yl_assign rfl rfl (SeqR.done (tn (CW.seq ?_))))))))))
   refine CW.region (sd rfl (yl_move rfl rfl (sd rfl (yl_move rfl rfl (sd rfl (yl_sindexN Try.un9 (a := p_s) rfl rfl rfl (by first | omega | assumption | (simp only [IntKind.wrap_i64] at *; omega)) (sd rfl (yl_call Try.en249 rfl (opvs_cons rfl opvs_nil) (Cal.mono (c_i_isLowerOrDigit ((p_s.getD k5 0).toNat : Int)) ?_)))))))))
   rintro v23 w22 ⟨rfl, hE24⟩
   have hE24z := Ex.size hE24
   refine sd rfl (yl_not rfl rfl (sd rfl (yl_move rfl rfl (bcase (i_isLowerOrDigit ((p_s.getD k5 0).toNat : Int)) (fun hb25 => ?_) (fun hb25 => ?_)))))
   ·refine sz rfl rfl (not_t hb25) (sz rfl rfl (not_t hb25) (sz rfl rfl (not_t hb25) (sz rfl rfl (not_t hb25) (sz rfl rfl (not_t hb25) (sz rfl rfl (not_t hb25) (sd rfl (yl_pick_f rfl rfl (not_t hb25) rfl (SeqR.done (tn ?_)))))))))
    refine CW.cond_f rfl rfl (CW.skip (bn (tn (CW.region (sd rfl (yl_inc rfl rfl rfl (by omega) (sd rfl (yl_move rfl rfl (SeqR.done (tn ?_))))))))))
    have hB26 : B_i_hasBytes_0 p_s p_others k5 () = .cont () := by simp only [B_i_hasBytes_0, hb25, cond_true, cond_false, loopE_done, loopE_ret]
    exact ⟨p_s.length - (k5 + 1), by omega, k5 + 1, rfl, hlt21, (by omega), rfl, rfl, rfl, rfl, (Ex.trans hf19 hE24), (loopM.cont hlt21 hB26).symm.trans hI13⟩
   ·refine sy rfl rfl (not_f hb25) (yl_move rfl rfl (sy rfl rfl (not_f hb25) (yl_move rfl rfl (sy rfl rfl (not_f hb25) (yl_move rfl rfl (sy rfl rfl (not_f hb25) (yl_sindexN Try.un9 (a := p_s) rfl rfl rfl (by first | omega | assumption | (simp only [IntKind.wrap_i64] at *; omega)) (sy rfl rfl (not_f hb25) (yl_call Try.en250 rfl (opvs_cons rfl (opvs_cons rfl opvs_nil)) (Cal.mono (c_g_strings_IndexByte p_others ((p_s.getD k5 0).toNat : Int) o2) ?_))))))))))
    rintro v29 w28 ⟨rfl, hE30⟩
    have hE30z := Ex.size hE30
    refine sy rfl rfl (not_f hb25) (yl_lss rfl rfl rfl (sd rfl (yl_pick_t rfl rfl (not_f hb25) rfl (SeqR.done (tn (bcase (decide ((g_strings_IndexByte p_others ((p_s.getD k5 0).toNat : Int)) < 0)) (fun hb31 => ?_) (fun hb31 => ?_)))))))
    ·have hb31p := dec_t hb31
     refine CW.cond_t rfl hb31 (CW.seq (CW.region (sd rfl (yl_assign rfl rfl (SeqR.done (tn (CW.ret (br (tr ?_)))))))))
     refine tr ?_
     have hB33 : B_i_hasBytes_0 p_s p_others k5 () = .ret false := by simp only [B_i_hasBytes_0, hb25, hb31, cond_true, cond_false, loopE_done, loopE_ret]
     have hL32 : loopM (B_i_hasBytes_0 p_s p_others) (p_s.length - 0) 0 () = .ret false := hI13.symm.trans (loopM.ret hlt21 hB33)
     refine br (tr (rr rfl (.cons rfl .nil) ?_))
     have hM34 : (i_hasBytes p_s p_others) = (false) := by simp only [i_hasBytes, hb25, hb31, hL32, cond_true, cond_false, loopE_done, loopE_ret]
     rw [hM34]
     exact ⟨rfl, (Ex.trans (Ex.trans hf19 hE24) hE30)⟩
    ·have hb31p := dec_f hb31
     refine CW.cond_f rfl hb31 (CW.skip (bn (tn (CW.region (sd rfl (yl_inc rfl rfl rfl (by omega) (sd rfl (yl_move rfl rfl (SeqR.done (tn ?_))))))))))
     have hB37 : B_i_hasBytes_0 p_s p_others k5 () = .cont () := by simp only [B_i_hasBytes_0, hb25, hb31, cond_true, cond_false, loopE_done, loopE_ret]
     exact ⟨p_s.length - (k5 + 1), by omega, k5 + 1, rfl, hlt21, (by omega), rfl, rfl, rfl, rfl, (Ex.trans (Ex.trans hf19 hE24) hE30), (loopM.cont hlt21 hB37).symm.trans hI13⟩
  ·refine CW.seq (CW.region (sd rfl (yl_lss rfl rfl rfl (SeqR.done (tn (CW.seq (CW.cond_f rfl (lt_f hlt21) (CW.exit (tx ?_)))))))))
   refine tx ?_
   have hL40 : loopM (B_i_hasBytes_0 p_s p_others) (p_s.length - 0) 0 () = .done () := hI13.symm.trans (loopM.stop hlt21)
   refine bx (tn (CW.seq (CW.region (sd rfl (yl_assign rfl rfl (SeqR.done (tn (CW.ret (rr rfl (.cons rfl .nil) ?_)))))))))
   have hM41 : (i_hasBytes p_s p_others) = (true) := by simp only [i_hasBytes, hL40, cond_true, cond_false, loopE_done, loopE_ret]
   rw [hM41]
   exact ⟨rfl, hf19⟩
set_option maxRecDepth 100000 in
set_option maxHeartbeats 2000000 in
theorem c_i_isField {w : World} (p_s : Str) (o1 : okS p_s) : Cal Try.prog 215 #[.string (bs (p_s))] w fun v w' => v = .bool ((i_isField p_s)) ∧ Ex w w' := by
 have hol2 : p_s.length ≤ 1073741824 := o1
 refine Cal.of (vs := [.string (bs (p_s))]) Try.func215 rfl Try.ntmps215 rfl (CW.seq (CW.region (sd rfl (yl_assign rfl rfl (SeqR.done (tn (CW.seq (CW.region (sd rfl (yl_move rfl rfl ?_))))))))))
 refine sd rfl (yl_slen Try.un9 (a := p_s) rfl rfl (sd rfl (yl_call Try.en142 rfl (opvs_cons rfl (opvs_cons rfl (opvs_cons rfl opvs_nil))) (Cal.mono (c_i_within (p_s.length : Int) 1 3) ?_))))
 rintro v4 w3 ⟨rfl, hE5⟩
 have hE5z := Ex.size hE5
 refine sd rfl (yl_move rfl rfl (bcase (i_within (p_s.length : Int) 1 3) (fun hb6 => ?_) (fun hb6 => ?_)))
 ·have hb6p := f_within hb6
  refine sy rfl rfl hb6 (yl_move rfl rfl (sy rfl rfl hb6 (yl_call Try.en235 rfl (opvs_cons rfl (opvs_cons rfl opvs_nil)) (Cal.mono (c_i_hasBytes p_s ([] : Str) o1 (okS.lit rfl)) ?_))))
  rintro v8 w7 ⟨rfl, hE9⟩
  have hE9z := Ex.size hE9
  refine sd rfl (yl_pick_t rfl rfl hb6 rfl (sd rfl (yl_assign rfl rfl (SeqR.done (tn (CW.ret (rr rfl (.cons rfl .nil) ?_)))))))
  have hM10 : (i_isField p_s) = ((i_hasBytes p_s ([] : Str))) := by simp only [i_isField, hb6, cond_true, cond_false, loopE_done, loopE_ret]
  rw [hM10]
  exact ⟨rfl, (Ex.trans (Ex.trans (Ex.refl w) hE5) hE9)⟩
 ·refine sz rfl rfl hb6 (sz rfl rfl hb6 (sd rfl (yl_pick_f rfl rfl hb6 rfl (sd rfl (yl_assign rfl rfl (SeqR.done (tn (CW.ret (rr rfl (.cons rfl .nil) ?_)))))))))
  have hM13 : (i_isField p_s) = (false) := by simp only [i_isField, hb6, cond_true, cond_false, loopE_done, loopE_ret]
  rw [hM13]
  exact ⟨rfl, (Ex.trans (Ex.refl w) hE5)⟩
set_option maxRecDepth 100000 in
set_option maxHeartbeats 2000000 in
theorem c_i_Table_isRow_c1 {w : World} (p_s : Str) (o1 : okS p_s) : Cal Try.prog 214 #[.string (bs (p_s))] w fun v w' => v = .bool ((i_Table_isRow_c1 p_s)) ∧ Ex w w' := by
 have hol2 : p_s.length ≤ 1073741824 := o1
 refine Cal.of (vs := [.string (bs (p_s))]) Try.func214 rfl Try.ntmps214 rfl (CW.seq (CW.region (sd rfl (yl_assign rfl rfl (SeqR.done (tn (CW.seq (CW.region (sd rfl (yl_move rfl rfl ?_))))))))))
 refine sd rfl (yl_call Try.en215 rfl (opvs_cons rfl opvs_nil) (Cal.mono (c_i_isField p_s o1) ?_))
 rintro v4 w3 ⟨rfl, hE5⟩
 have hE5z := Ex.size hE5
 refine sd rfl (yl_not rfl rfl (sd rfl (yl_assign rfl rfl (SeqR.done (tn (CW.ret (rr rfl (.cons rfl .nil) ?_)))))))
 have hM6 : (i_Table_isRow_c1 p_s) = (!(i_isField p_s)) := by simp only [i_Table_isRow_c1, cond_true, cond_false, loopE_done, loopE_ret]
 rw [hM6]
 exact ⟨rfl, (Ex.trans (Ex.refl w) hE5)⟩
set_option maxRecDepth 100000 in
set_option maxHeartbeats 2000000 in
theorem c_i_Table_isRow {A1 : Option Addr} {c1 : Nat} {A2 : Option Addr} {c2 : Nat} {A4 : Option Addr} {c4 : Nat} {w : World} (p_t : DTable) (p_r : DRow) (h1 : RdS w (Iv 0 w.heap.size) (RF e_Str) 1 A1 p_t.Cols.length c1 p_t.Cols) (h2 : RdS w (Iv 0 w.heap.size) (RF e_Idx) 3 A2 p_t.Idxs.length c2 p_t.Idxs) (h4 : RdS w (Iv 0 w.heap.size) (RF e_Str) 1 A4 p_r.Vals.length c4 p_r.Vals) (o3 : ok_Table p_t) (o5 : ok_Row p_r) : Cal Try.prog 167 #[.agg #[.string (bs (p_t.Name)), .slice A1 p_t.Cols.length c1, .slice A2 p_t.Idxs.length c2], .agg #[.slice A4 p_r.Vals.length c4]] w fun v w' => v = .bool ((i_Table_isRow p_t p_r)) ∧ Ex w w' := by
 have hol6 : p_t.Name.length ≤ 1073741824 := o3.1
 have hol7 := o3.2.1.1
 have hol8 := o3.2.2.1
 have hol9 := o5.1
 refine Cal.of (vs := [.agg #[.string (bs (p_t.Name)), .slice A1 p_t.Cols.length c1, .slice A2 p_t.Idxs.length c2], .agg #[.slice A4 p_r.Vals.length c4]]) Try.func167 rfl Try.ntmps167 rfl (CW.seq (CW.region (sd rfl (yl_box (cs := [.string (bs (p_t.Name)), .slice A1 p_t.Cols.length c1, .slice A2 p_t.Idxs.length c2]) rfl rfl rfl ?_))))
 intro b10 w11 hs12 hz13 hB14 hE15
 refine sd rfl (yl_box (cs := [.slice A4 p_r.Vals.length c4]) rfl rfl rfl ?_)
 intro b16 w17 hs18 hz19 hB20 hE21
 refine sd rfl (yl_assign rfl rfl (SeqR.done (tn (CW.seq (CW.region (sd rfl (yl_fieldAddr Try.fd67_0 rfl rfl (sd rfl (yl_load1 Try.ty52 rfl rfl ((hB20.cell 0).trans rfl) (sd rfl (yl_len Try.un52 rfl rfl (sd rfl (yl_fieldAddr Try.fd65_1 rfl rfl ?_)))))))))))))
 refine sd rfl (yl_load1 Try.ty52 rfl rfl (((Box.ex hB14 hE21).cell 1).trans rfl) (sd rfl (yl_len Try.un52 rfl rfl (sd rfl (yl_eql rfl rfl rfl (sd rfl (yl_move rfl rfl (bcase (decide ((p_r.Vals.length : Int) = (p_t.Cols.length : Int))) (fun hb23 => ?_) (fun hb23 => ?_)))))))))
 ·have hb23p := dec_t hb23
  refine sy rfl rfl hb23 (yl_fieldAddr Try.fd67_0 rfl rfl (sy rfl rfl hb23 (yl_load1 Try.ty52 rfl rfl ((hB20.cell 0).trans rfl) (sy rfl rfl hb23 (yl_call Try.en213 rfl (opvs_cons rfl (opvs_cons rfl opvs_nil)) (Cal.mono (c_g_slices_ContainsFunc_string p_r.Vals (fun y0 => i_Table_isRow_c1 y0) (RdS.up (RdS.ex good_Str (RdS.ex good_Str h4 hE15) hE21) good_Str) Try.en214 (fun _ y0 => fun hE hm0 ov0 => c_i_Table_isRow_c1 y0 ov0) o5) ?_))))))
  rintro v27 w26 ⟨rfl, hE28⟩
  have hE28z := Ex.size hE28
  refine sy rfl rfl hb23 (yl_not rfl rfl (sd rfl (yl_pick_t rfl rfl hb23 rfl (sd rfl (yl_assign rfl rfl (SeqR.done (tn (CW.ret (rr rfl (.cons rfl .nil) ?_)))))))))
  have hM29 : (i_Table_isRow p_t p_r) = (!(g_slices_ContainsFunc_string p_r.Vals (fun y0 => i_Table_isRow_c1 y0))) := by simp only [i_Table_isRow, hb23, cond_true, cond_false, loopE_done, loopE_ret]
  rw [hM29]
  exact ⟨rfl, (Ex.trans (Ex.trans (Ex.trans (Ex.refl w) hE15) hE21) hE28)⟩
 ·have hb23p := dec_f hb23
  refine sz rfl rfl hb23 (sz rfl rfl hb23 (sz rfl rfl hb23 (sz rfl rfl hb23 (sd rfl (yl_pick_f rfl rfl hb23 rfl (sd rfl (yl_assign rfl rfl (SeqR.done (tn (CW.ret ?_))))))))))
  refine rr rfl (.cons rfl .nil) ?_
  have hM33 : (i_Table_isRow p_t p_r) = (false) := by simp only [i_Table_isRow, hb23, cond_true, cond_false, loopE_done, loopE_ret]
  rw [hM33]
  exact ⟨rfl, (Ex.trans (Ex.trans (Ex.refl w) hE15) hE21)⟩
set_option maxRecDepth 100000 in
set_option maxHeartbeats 2000000 in
theorem c_i_GoodRow {A1 : Option Addr} {c1 : Nat} {A2 : Option Addr} {c2 : Nat} {A4 : Option Addr} {c4 : Nat} {w : World} (p_t : DTable) (p_r : DRow) (h1 : RdS w (Iv 0 w.heap.size) (RF e_Str) 1 A1 p_t.Cols.length c1 p_t.Cols) (h2 : RdS w (Iv 0 w.heap.size) (RF e_Idx) 3 A2 p_t.Idxs.length c2 p_t.Idxs) (h4 : RdS w (Iv 0 w.heap.size) (RF e_Str) 1 A4 p_r.Vals.length c4 p_r.Vals) (o3 : ok_Table p_t) (o5 : ok_Row p_r) : Cal Try.prog 108 #[.agg #[.string (bs (p_t.Name)), .slice A1 p_t.Cols.length c1, .slice A2 p_t.Idxs.length c2], .agg #[.slice A4 p_r.Vals.length c4]] w fun v w' => v = .bool ((i_GoodRow p_t p_r)) ∧ Ex w w' := by
 have hol6 : p_t.Name.length ≤ 1073741824 := o3.1
 have hol7 := o3.2.1.1
 have hol8 := o3.2.2.1
 have hol9 := o5.1
 refine Cal.of (vs := [.agg #[.string (bs (p_t.Name)), .slice A1 p_t.Cols.length c1, .slice A2 p_t.Idxs.length c2], .agg #[.slice A4 p_r.Vals.length c4]]) Try.func108 rfl Try.ntmps108 rfl (CW.seq (CW.region (sd rfl (yl_box (cs := [.string (bs (p_t.Name)), .slice A1 p_t.Cols.length c1, .slice A2 p_t.Idxs.length c2]) rfl rfl rfl ?_))))
 intro b10 w11 hs12 hz13 hB14 hE15
 refine sd rfl (yl_box (cs := [.slice A4 p_r.Vals.length c4]) rfl rfl rfl ?_)
 intro b16 w17 hs18 hz19 hB20 hE21
 refine sd rfl (yl_assign rfl rfl (SeqR.done (tn (CW.seq (CW.region ?_)))))
 have q22 := Box.ex hB14 hE21
 refine sd rfl (yl_loadN (cs := [.string (bs (p_t.Name)), .slice A1 p_t.Cols.length c1, .slice A2 p_t.Idxs.length c2]) Try.ty65 rfl rfl (q22.cells (n := 3) rfl) rfl ?_)
 have q24 := RdS.ex good_Str (RdS.ex good_Str h1 hE15) hE21
 have q26 := RdS.ex good_Idx (RdS.ex good_Idx h2 hE15) hE21
 refine sd rfl (yl_call Try.en166 rfl (opvs_cons rfl opvs_nil) (Cal.mono (c_i_GoodTable p_t (RdS.up q24 good_Str) (RdS.up q26 good_Idx) o3) ?_))
 rintro v28 w27 ⟨rfl, hE29⟩
 have hE29z := Ex.size hE29
 refine sd rfl (yl_move rfl rfl (bcase (i_GoodTable p_t) (fun hb30 => ?_) (fun hb30 => ?_)))
 ·have hb30p := f_i_GoodTable hb30
  refine sy rfl rfl hb30 (yl_loadN (cs := [.string (bs (p_t.Name)), .slice A1 p_t.Cols.length c1, .slice A2 p_t.Idxs.length c2]) Try.ty65 rfl rfl ((Box.ex q22 hE29).cells (n := 3) rfl) rfl (sy rfl rfl hb30 (yl_loadN (cs := [.slice A4 p_r.Vals.length c4]) Try.ty67 rfl rfl ((Box.ex hB20 hE29).cells (n := 1) rfl) rfl (sy rfl rfl hb30 (yl_call Try.en167 rfl (opvs_cons rfl (opvs_cons rfl opvs_nil)) (Cal.mono (c_i_Table_isRow p_t p_r (RdS.up (RdS.ex good_Str q24 hE29) good_Str) (RdS.up (RdS.ex good_Idx q26 hE29) good_Idx) (RdS.up (RdS.ex good_Str (RdS.ex good_Str (RdS.ex good_Str h4 hE15) hE21) hE29) good_Str) o3 o5) ?_))))))
  rintro v39 w38 ⟨rfl, hE40⟩
  have hE40z := Ex.size hE40
  refine sd rfl (yl_pick_t rfl rfl hb30 rfl (sd rfl (yl_assign rfl rfl (SeqR.done (tn (CW.ret (rr rfl (.cons rfl .nil) ?_)))))))
  have hM41 : (i_GoodRow p_t p_r) = ((i_Table_isRow p_t p_r)) := by simp only [i_GoodRow, hb30, cond_true, cond_false, loopE_done, loopE_ret]
  rw [hM41]
  exact ⟨rfl, (Ex.trans (Ex.trans (Ex.trans (Ex.trans (Ex.refl w) hE15) hE21) hE29) hE40)⟩
 ·refine sz rfl rfl hb30 (sz rfl rfl hb30 (sz rfl rfl hb30 (sd rfl (yl_pick_f rfl rfl hb30 rfl (sd rfl (yl_assign rfl rfl (SeqR.done (tn (CW.ret (rr rfl (.cons rfl .nil) ?_))))))))))
  have hM46 : (i_GoodRow p_t p_r) = (false) := by simp only [i_GoodRow, hb30, cond_true, cond_false, loopE_done, loopE_ret]
  rw [hM46]
  exact ⟨rfl, (Ex.trans (Ex.trans (Ex.trans (Ex.refl w) hE15) hE21) hE29)⟩
set_option maxRecDepth 100000 in
set_option maxHeartbeats 2000000 in
theorem c_g_slices_IndexFunc_Idx {A1 : Option Addr} {c1 : Nat} {g3 : Nat} {cp4 : List Value} {w : World} (p_s : List DIdx) (p_f : DIdx → Bool) (h1 : RdS w (Iv 0 w.heap.size) (RF e_Idx) 3 A1 p_s.length c1 p_s) (hen5 : Go.X.Enters Try.prog g3) (hfn6 : ∀ (w1 : World) (y0 : DIdx), Ex w w1 → y0 ∈ p_s → ok_Idx y0 → Cal Try.prog g3 (([.agg #[.string (bs (y0.Name)), .int .i64 (y0.Col), .int .i64 (y0.Stage)]] : List Value) ++ cp4).toArray w1 fun v w2 => v = .bool (p_f y0) ∧ Ex w1 w2) (o2 : (okL ok_Idx) p_s) : Cal Try.prog 216 #[.slice A1 p_s.length c1, .func (.func g3) #[] cp4.toArray] w fun v w' => v = .int .i64 ((g_slices_IndexFunc_Idx p_s p_f)) ∧ Ex w w' := by
 have hol7 := o2.1
 refine Cal.of (vs := [.slice A1 p_s.length c1, .func (.func g3) #[] cp4.toArray]) Try.func216 rfl Try.ntmps216 rfl (CW.seq (CW.region (sd rfl (yl_assign rfl rfl (SeqR.done (tn (CW.seq (CW.seq (CW.region ?_)))))))))
 refine sd rfl (yl_move rfl rfl (sd rfl (yl_len Try.un63 rfl rfl (sd rfl (yl_move rfl rfl (SeqR.done (tn (CW.block (CW.loop (fun m9 L10 w11 => ∃ (k8 : Nat), m9 = p_s.length - k8 ∧ k8 ≤ p_s.length ∧ w.heap.size ≤ w11.heap.size ∧ lkp L10 0 = some (.slice A1 p_s.length c1) ∧ lkp L10 1 = some (.func (.func g3) #[] cp4.toArray) ∧ lkp L10 7 = some (.int .i64 ((p_s.length : Int))) ∧ lkp L10 8 = some (.int .i64 ((k8 : Int))) ∧ RdS w11 (Iv 0 w.heap.size) (RF e_Idx) 3 A1 p_s.length c1 p_s ∧ Ex w w11 ∧ loopM (B_g_slices_IndexFunc_Idx_0 p_s p_f) (p_s.length - k8) k8 () = loopM (B_g_slices_IndexFunc_Idx_0 p_s p_f) (p_s.length - 0) 0 ()) (p_s.length - 0) ?_ ?_)))))))))
 ·exact ⟨0, rfl, (by omega), Nat.le_refl _, rfl, rfl, rfl, rfl, h1, (Ex.refl w), rfl⟩
 ·rintro m12 L13 w14 ⟨k8, rfl, hk15, hsz17, hl18, hl19, hl20, hl21, hf22, hf23, hI16⟩
  refine CW.sub (Sub.cons hl18 (Sub.cons hl19 (Sub.cons hl20 (Sub.cons hl21 (Sub.nil _))))) ?_
  have hf23z := Ex.size hf23
  have hbg24 := RdS.big hf22
  rcases Nat.lt_or_ge k8 p_s.length with hlt25 | hlt25
  ·refine CW.seq (CW.region (sd rfl (yl_lss rfl rfl rfl (SeqR.done (tn (CW.seq (CW.cond_t rfl (lt_t hlt25) (CW.skip (tn ?_)))))))))
   refine CW.seq (CW.block (CW.seq (CW.region (sd rfl (yl_move rfl rfl (sd rfl (yl_assign rfl rfl (SeqR.done (tn (CW.seq ?_))))))))))
   refine CW.region (sd rfl (yl_move rfl rfl (sd rfl (yl_move rfl rfl (sd rfl (yl_move rfl rfl ?_))))))
   obtain ⟨eb26, eo26, ec26, eA26, eS26, ebl26, el26, eR26, eC26⟩ := RdS.atD hf22 d_Idx (i := k8) (by first | omega | assumption)
   obtain rfl := eR26
   have eC26 : Cells w14 eb26 (eo26 + k8 * 3) [.string (bs ((p_s.getD k8 d_Idx).Name)), .int .i64 ((p_s.getD k8 d_Idx).Col), .int .i64 ((p_s.getD k8 d_Idx).Stage)] := eC26
   refine sd rfl (yl_indexAddrN Try.un63 Try.ty152 rfl rfl rfl eA26 (by first | omega | assumption | (simp only [IntKind.wrap_i64] at *; omega)) (sd rfl (yl_loadN (cs := [.string (bs ((p_s.getD k8 d_Idx).Name)), .int .i64 ((p_s.getD k8 d_Idx).Col), .int .i64 ((p_s.getD k8 d_Idx).Stage)]) Try.ty152 rfl rfl eC26 rfl (sd rfl (yl_callv hen5 rfl rfl (opvs_cons rfl opvs_nil) (Cal.mono (hfn6 w14 (p_s.getD k8 d_Idx) hf23 (getD_mem (by omega)) (okL.getD o2 ok_d_Idx _)) ?_))))))
   rintro v28 w27 ⟨rfl, hE29⟩
   have hE29z := Ex.size hE29
   refine SeqR.done (tn (bcase (p_f (p_s.getD k8 d_Idx)) (fun hb30 => ?_) (fun hb30 => ?_)))
   ·refine CW.cond_t rfl hb30 (CW.seq (CW.region (sd rfl (yl_move rfl rfl (sd rfl (yl_assign rfl rfl (SeqR.done (tn (CW.ret (br ?_))))))))))
    refine tr (tr ?_)
    have hB32 : B_g_slices_IndexFunc_Idx_0 p_s p_f k8 () = .ret (k8 : Int) := by simp only [B_g_slices_IndexFunc_Idx_0, hb30, cond_true, cond_false, loopE_done, loopE_ret]
    have hL31 : loopM (B_g_slices_IndexFunc_Idx_0 p_s p_f) (p_s.length - 0) 0 () = .ret (k8 : Int) := hI16.symm.trans (loopM.ret hlt25 hB32)
    refine br (tr (rr rfl (.cons rfl .nil) ?_))
    have hM33 : (g_slices_IndexFunc_Idx p_s p_f) = ((k8 : Int)) := by simp only [g_slices_IndexFunc_Idx, hb30, hL31, cond_true, cond_false, loopE_done, loopE_ret]
    rw [hM33]
    exact ⟨rfl, (Ex.trans hf23 hE29)⟩
   ·refine CW.cond_f rfl hb30 (CW.skip (bn (tn (CW.region (sd rfl (yl_inc rfl rfl rfl (by omega) (sd rfl (yl_move rfl rfl (SeqR.done (tn ?_))))))))))
    have hB35 : B_g_slices_IndexFunc_Idx_0 p_s p_f k8 () = .cont () := by simp only [B_g_slices_IndexFunc_Idx_0, hb30, cond_true, cond_false, loopE_done, loopE_ret]
    exact ⟨p_s.length - (k8 + 1), by omega, k8 + 1, rfl, hlt25, (by omega), rfl, rfl, rfl, rfl, (RdS.ex good_Idx hf22 hE29), (Ex.trans hf23 hE29), (loopM.cont hlt25 hB35).symm.trans hI16⟩
  ·refine CW.seq (CW.region (sd rfl (yl_lss rfl rfl rfl (SeqR.done (tn (CW.seq (CW.cond_f rfl (lt_f hlt25) (CW.exit (tx ?_)))))))))
   refine tx ?_
   have hL38 : loopM (B_g_slices_IndexFunc_Idx_0 p_s p_f) (p_s.length - 0) 0 () = .done () := hI16.symm.trans (loopM.stop hlt25)
   refine bx (tn (CW.seq (CW.region (sd rfl (yl_assign rfl rfl (SeqR.done (tn (CW.ret (rr rfl (.cons rfl .nil) ?_)))))))))
   have hM39 : (g_slices_IndexFunc_Idx p_s p_f) = (-1) := by simp only [g_slices_IndexFunc_Idx, hL38, cond_true, cond_false, loopE_done, loopE_ret]
   rw [hM39]
   exact ⟨rfl, hf23⟩
set_option maxRecDepth 100000 in
set_option maxHeartbeats 2000000 in
theorem c_i_Table_findIdx_c1 {b2 : Nat} {w : World} (p_x : DIdx) (p_cap0 : Str) (h3 : Box w b2 9 [.string (bs (p_cap0))]) (o1 : ok_Idx p_x) (o4 : okS p_cap0) : Cal Try.prog 217 #[.agg #[.string (bs (p_x.Name)), .int .i64 (p_x.Col), .int .i64 (p_x.Stage)], .pointer (some ⟨b2, 0, none⟩)] w fun v w' => v = .bool ((i_Table_findIdx_c1 p_x p_cap0)) ∧ Ex w w' := by
 have hol5 : p_x.Name.length ≤ 1073741824 := o1
 have hol6 : p_cap0.length ≤ 1073741824 := o4
 refine Cal.of (vs := [.agg #[.string (bs (p_x.Name)), .int .i64 (p_x.Col), .int .i64 (p_x.Stage)], .pointer (some ⟨b2, 0, none⟩)]) Try.func217 rfl Try.ntmps217 rfl (CW.seq (CW.region (sd rfl (yl_box (cs := [.string (bs (p_x.Name)), .int .i64 (p_x.Col), .int .i64 (p_x.Stage)]) rfl rfl rfl ?_))))
 intro b7 w8 hs9 hz10 hB11 hE12
 refine sd rfl (yl_assign rfl rfl (SeqR.done (tn (CW.seq (CW.region (sd rfl (yl_fieldAddr Try.fd152_0 rfl rfl (sd rfl (yl_load1 Try.ty9 rfl rfl ((hB11.cell 0).trans rfl) (sd rfl (yl_load1 Try.ty9 rfl rfl (((Box.ex h3 hE12).cell 0).trans rfl) (sd rfl (yl_seql (a := p_x.Name) (b := p_cap0) rfl rfl rfl ?_)))))))))))))
 refine sd rfl (yl_assign rfl rfl (SeqR.done (tn (CW.ret (rr rfl (.cons rfl .nil) ?_)))))
 have hM14 : (i_Table_findIdx_c1 p_x p_cap0) = (p_x.Name == p_cap0) := by simp only [i_Table_findIdx_c1, cond_true, cond_false, loopE_done, loopE_ret]
 rw [hM14]
 exact ⟨rfl, (Ex.trans (Ex.refl w) hE12)⟩
set_option maxRecDepth 100000 in
set_option maxHeartbeats 2000000 in
theorem c_i_Table_findIdx {A1 : Option Addr} {c1 : Nat} {A2 : Option Addr} {c2 : Nat} {w : World} (p_t : DTable) (p_name : Str) (h1 : RdS w (Iv 0 w.heap.size) (RF e_Str) 1 A1 p_t.Cols.length c1 p_t.Cols) (h2 : RdS w (Iv 0 w.heap.size) (RF e_Idx) 3 A2 p_t.Idxs.length c2 p_t.Idxs) (o3 : ok_Table p_t) (o4 : okS p_name) : Cal Try.prog 168 #[.agg #[.string (bs (p_t.Name)), .slice A1 p_t.Cols.length c1, .slice A2 p_t.Idxs.length c2], .string (bs (p_name))] w fun v w' => v = .int .i64 ((i_Table_findIdx p_t p_name)) ∧ Ex w w' := by
 have hol5 : p_t.Name.length ≤ 1073741824 := o3.1
 have hol6 := o3.2.1.1
 have hol7 := o3.2.2.1
 have hol8 : p_name.length ≤ 1073741824 := o4
 refine Cal.of (vs := [.agg #[.string (bs (p_t.Name)), .slice A1 p_t.Cols.length c1, .slice A2 p_t.Idxs.length c2], .string (bs (p_name))]) Try.func168 rfl Try.ntmps168 rfl (CW.seq (CW.region (sd rfl (yl_box (cs := [.string (bs (p_t.Name)), .slice A1 p_t.Cols.length c1, .slice A2 p_t.Idxs.length c2]) rfl rfl rfl ?_))))
 intro b9 w10 hs11 hz12 hB13 hE14
 refine sd rfl (yl_box (cs := [.string (bs (p_name))]) rfl rfl rfl ?_)
 intro b15 w16 hs17 hz18 hB19 hE20
 refine sd rfl (yl_assign rfl rfl (SeqR.done (tn (CW.seq (CW.region (sd rfl (yl_fieldAddr Try.fd65_2 rfl rfl (sd rfl (yl_load1 Try.ty63 rfl rfl (((Box.ex hB13 hE20).cell 2).trans rfl) (sd rfl (yl_makeFunc rfl (opvs_cons rfl opvs_nil) (sd rfl (yl_call Try.en216 rfl (opvs_cons rfl (opvs_cons rfl opvs_nil)) (Cal.mono (c_g_slices_IndexFunc_Idx p_t.Idxs (fun y0 => i_Table_findIdx_c1 y0 p_name) (RdS.up (RdS.ex good_Idx (RdS.ex good_Idx h2 hE14) hE20) good_Idx) Try.en217 (fun _ y0 => fun hE hm0 ov0 => c_i_Table_findIdx_c1 y0 p_name (Box.ex hB19 hE) ov0 o4) o3.2.2) ?_))))))))))))))
 rintro v25 w24 ⟨rfl, hE26⟩
 have hE26z := Ex.size hE26
 refine sd rfl (yl_assign rfl rfl (SeqR.done (tn (CW.ret (rr rfl (.cons rfl .nil) ?_)))))
 have hM27 : (i_Table_findIdx p_t p_name) = ((g_slices_IndexFunc_Idx p_t.Idxs (fun y0 => i_Table_findIdx_c1 y0 p_name))) := by simp only [i_Table_findIdx, cond_true, cond_false, loopE_done, loopE_ret]
 rw [hM27]
 exact ⟨rfl, (Ex.trans (Ex.trans (Ex.trans (Ex.refl w) hE14) hE20) hE26)⟩
set_option maxRecDepth 100000 in
set_option maxHeartbeats 2000000 in
theorem c_i_hasIdx {A1 : Option Addr} {c1 : Nat} {A2 : Option Addr} {c2 : Nat} {w : World} (p_t : DTable) (p_name : Str) (h1 : RdS w (Iv 0 w.heap.size) (RF e_Str) 1 A1 p_t.Cols.length c1 p_t.Cols) (h2 : RdS w (Iv 0 w.heap.size) (RF e_Idx) 3 A2 p_t.Idxs.length c2 p_t.Idxs) (o3 : ok_Table p_t) (o4 : okS p_name) : Cal Try.prog 109 #[.agg #[.string (bs (p_t.Name)), .slice A1 p_t.Cols.length c1, .slice A2 p_t.Idxs.length c2], .string (bs (p_name))] w fun v w' => v = .bool ((i_hasIdx p_t p_name)) ∧ Ex w w' := by
 have hol5 : p_t.Name.length ≤ 1073741824 := o3.1
 have hol6 := o3.2.1.1
 have hol7 := o3.2.2.1
 have hol8 : p_name.length ≤ 1073741824 := o4
 refine Cal.of (vs := [.agg #[.string (bs (p_t.Name)), .slice A1 p_t.Cols.length c1, .slice A2 p_t.Idxs.length c2], .string (bs (p_name))]) Try.func109 rfl Try.ntmps109 rfl (CW.seq (CW.region (sd rfl (yl_box (cs := [.string (bs (p_t.Name)), .slice A1 p_t.Cols.length c1, .slice A2 p_t.Idxs.length c2]) rfl rfl rfl ?_))))
 intro b9 w10 hs11 hz12 hB13 hE14
 refine sd rfl (yl_assign rfl rfl (SeqR.done (tn (CW.seq (CW.region (sd rfl (yl_loadN (cs := [.string (bs (p_t.Name)), .slice A1 p_t.Cols.length c1, .slice A2 p_t.Idxs.length c2]) Try.ty65 rfl rfl (hB13.cells (n := 3) rfl) rfl ?_)))))))
 have q15 := RdS.ex good_Str h1 hE14
 have q16 := RdS.ex good_Idx h2 hE14
 refine sd rfl (yl_call Try.en166 rfl (opvs_cons rfl opvs_nil) (Cal.mono (c_i_GoodTable p_t (RdS.up q15 good_Str) (RdS.up q16 good_Idx) o3) ?_))
 rintro v18 w17 ⟨rfl, hE19⟩
 have hE19z := Ex.size hE19
 refine sd rfl (yl_move rfl rfl (bcase (i_GoodTable p_t) (fun hb20 => ?_) (fun hb20 => ?_)))
 ·have hb20p := f_i_GoodTable hb20
  refine sy rfl rfl hb20 (yl_loadN (cs := [.string (bs (p_t.Name)), .slice A1 p_t.Cols.length c1, .slice A2 p_t.Idxs.length c2]) Try.ty65 rfl rfl ((Box.ex hB13 hE19).cells (n := 3) rfl) rfl (sy rfl rfl hb20 (yl_move rfl rfl (sy rfl rfl hb20 (yl_call Try.en168 rfl (opvs_cons rfl (opvs_cons rfl opvs_nil)) (Cal.mono (c_i_Table_findIdx p_t p_name (RdS.up (RdS.ex good_Str q15 hE19) good_Str) (RdS.up (RdS.ex good_Idx q16 hE19) good_Idx) o3 o4) ?_))))))
  rintro v25 w24 ⟨rfl, hE26⟩
  have hE26z := Ex.size hE26
  have hrf27 := rf_i_findIdx p_t p_name
  refine sy rfl rfl hb20 (yl_geq rfl rfl rfl (sd rfl (yl_pick_t rfl rfl hb20 rfl (sd rfl (yl_assign rfl rfl (SeqR.done (tn (CW.ret (rr rfl (.cons rfl .nil) ?_)))))))))
  have hM28 : (i_hasIdx p_t p_name) = (decide (0 ≤ (i_Table_findIdx p_t p_name))) := by simp only [i_hasIdx, hb20, cond_true, cond_false, loopE_done, loopE_ret]
  rw [hM28]
  exact ⟨rfl, (Ex.trans (Ex.trans (Ex.trans (Ex.refl w) hE14) hE19) hE26)⟩
 ·refine sz rfl rfl hb20 (sz rfl rfl hb20 (sz rfl rfl hb20 (sz rfl rfl hb20 (sd rfl (yl_pick_f rfl rfl hb20 rfl (sd rfl (yl_assign rfl rfl (SeqR.done (tn (CW.ret ?_))))))))))
  refine rr rfl (.cons rfl .nil) ?_
  have hM32 : (i_hasIdx p_t p_name) = (false) := by simp only [i_hasIdx, hb20, cond_true, cond_false, loopE_done, loopE_ret]
  rw [hM32]
  exact ⟨rfl, (Ex.trans (Ex.trans (Ex.refl w) hE14) hE19)⟩
set_option maxRecDepth 100000 in
set_option maxHeartbeats 2000000 in
theorem c_i_Table_rowWrite {A1 : Option Addr} {c1 : Nat} {A2 : Option Addr} {c2 : Nat} {A4 : Option Addr} {c4 : Nat} {w : World} (p_t : DTable) (p_r : DRow) (h1 : RdS w (Iv 0 w.heap.size) (RF e_Str) 1 A1 p_t.Cols.length c1 p_t.Cols) (h2 : RdS w (Iv 0 w.heap.size) (RF e_Idx) 3 A2 p_t.Idxs.length c2 p_t.Idxs) (h4 : RdS w (Iv 0 w.heap.size) (RF e_Str) 1 A4 p_r.Vals.length c4 p_r.Vals) (o3 : ok_Table p_t) (o5 : ok_Row p_r) (pre0 : 0 < p_r.Vals.length) (pre1 : p_r.Vals.length ≤ 4) (pre2 : rowShort p_r) : Cal Try.prog 169 #[.agg #[.string (bs (p_t.Name)), .slice A1 p_t.Cols.length c1, .slice A2 p_t.Idxs.length c2], .agg #[.slice A4 p_r.Vals.length c4]] w fun v w' => v = .agg #[.string (bs ((i_Table_rowWrite p_t p_r).Key)), .string (bs ((i_Table_rowWrite p_t p_r).Val)), .bool ((i_Table_rowWrite p_t p_r).Gone)] ∧ Ex w w' := by
 have hol6 : p_t.Name.length ≤ 1073741824 := o3.1
 have hol7 := o3.2.1.1
 have hol8 := o3.2.2.1
 have hol9 := o5.1
 refine Cal.of (vs := [.agg #[.string (bs (p_t.Name)), .slice A1 p_t.Cols.length c1, .slice A2 p_t.Idxs.length c2], .agg #[.slice A4 p_r.Vals.length c4]]) Try.func169 rfl Try.ntmps169 rfl (CW.seq (CW.region (sd rfl (yl_box (cs := [.string (bs (p_t.Name)), .slice A1 p_t.Cols.length c1, .slice A2 p_t.Idxs.length c2]) rfl rfl rfl ?_))))
 intro b10 w11 hs12 hz13 hB14 hE15
 refine sd rfl (yl_box (cs := [.slice A4 p_r.Vals.length c4]) rfl rfl rfl ?_)
 intro b16 w17 hs18 hz19 hB20 hE21
 refine sd rfl (yl_alloc Try.ty125 (cs := [.string (bs (([] : Str))), .string (bs (([] : Str))), .bool (false)]) rfl rfl ?_)
 intro b22 w23 hs24 hz25 hB26 hE27
 refine SeqR.done (tn (CW.seq ?_))
 have hol30 : p_t.Name.length ≤ 1073741824 := o3.1
 have q31 := Box.ex hB20 hE27
 have q34 := RdS.ex good_Str (RdS.ex good_Str (RdS.ex good_Str h4 hE15) hE21) hE27
 obtain ⟨eb35, eo35, ec35, eA35, eS35, ebl35, el35, eR35, eC35⟩ := RdS.atD q34 d_Str (i := 0) (by first | omega | assumption)
 obtain rfl := eR35
 have eC35 : Cells w23 eb35 (eo35 + 0 * 1) [.string (bs ((p_r.Vals.getD 0 d_Str)))] := eC35
 have hol36 : p_t.Name.length ≤ 1073741824 := o3.1
 have hol37 : (p_r.Vals.getD 0 d_Str).length ≤ 1073741824 := (okL.getD o5 ok_d_Str _)
 obtain ⟨A38, c39, he42, h41⟩ := RdS.sl (RdS.drop q34 (k := 1) (by omega))
 have hrc43 := (q34).2.1
 refine CW.drawsI 12 (vgetI [DetI (.pointer (some ⟨b10, 0 + 0, none⟩)), DetI (.string (bs (p_t.Name))), DetI (.string (bs (p_t.Name ++ ([47] : Str)))), DetI (.pointer (some ⟨b16, 0 + 0, none⟩)), DetI (.slice A4 p_r.Vals.length c4), DetI (.pointer (some ⟨eb35, eo35 + 0 * 1, none⟩)), DetI (.string (bs ((p_r.Vals.getD 0 d_Str)))), DetI (.string (bs ((p_t.Name ++ ([47] : Str)) ++ (p_r.Vals.getD 0 d_Str)))), DetI (.pointer (some ⟨b16, 0 + 0, none⟩)), DetI (.slice A4 p_r.Vals.length c4), fun lo hi v wq => ∃ A38 c39, v = .slice A38 ((p_r.Vals.drop 1).length) c39 ∧ RdS wq (Iv 0 w.heap.size) (RF e_Str) 1 A38 (p_r.Vals.drop 1).length c39 (p_r.Vals.drop 1), fun lo hi v wq => v = .string (bs ((g_strings_Join (p_r.Vals.drop 1) ([44] : Str)))) ∧ okS (g_strings_Join (p_r.Vals.drop 1) ([44] : Str))]) Try.follows rfl rfl rfl rfl rfl rfl (vgetI_stable ⟨StableI.det _, StableI.det _, StableI.det _, StableI.det _, StableI.det _, StableI.det _, StableI.det _, StableI.det _, StableI.det _, StableI.det _, (fun _ _ _ _ _ ⟨A38, c39, hv, h44⟩ e => ⟨A38, c39, hv, RdS.ex good_Str h44 e⟩), (fun _ _ _ _ _ ⟨hv, ho46⟩ e => ⟨hv, ho46⟩), trivial⟩) ⟨?_, ?_, ?_, ?_, ?_, ?_, ?_, ?_, ?_, ?_, ?_, ?_, trivial⟩ ?_
 ·exact fun _ _ h => os rfl ((yl_fieldAddr Try.fd65_0 rfl (h.old 2 _ rfl rfl) kI))
 ·exact fun _ _ h => os rfl ((yl_load1 Try.ty9 rfl (h.dt 0 5 rfl rfl rfl) (((Box.ex (Box.ex (Box.ex hB14 hE21) hE27) h.ex).cell 0).trans rfl) kI))
 ·intro L58 w59 hi60
  have hE61 := hi60.ex
  have hE61z := Ex.size hE61
  have hol63 : p_t.Name.length ≤ 1073741824 := o3.1
  exact os rfl ((yl_sadd (a := p_t.Name) (b := ([47] : Str)) rfl (hi60.dt 1 6 rfl rfl rfl) rfl (by first | omega | (simp only [List.length_append, List.length_cons, List.length_nil, List.length_take, List.length_drop, toS_length]; omega)) kI))
 ·exact fun _ _ h => os rfl ((yl_fieldAddr Try.fd67_0 rfl (h.old 3 _ rfl rfl) kI))
 ·exact fun _ _ h => os rfl ((yl_load1 Try.ty52 rfl (h.dt 3 8 rfl rfl rfl) (((Box.ex q31 h.ex).cell 0).trans rfl) kI))
 ·intro L75 w76 hi77
  have hE78 := hi77.ex
  have hE78z := Ex.size hE78
  exact os rfl ((yl_indexAddrN Try.un52 Try.ty9 rfl (hi77.dt 4 9 rfl rfl rfl) rfl eA35 (by first | omega | assumption | (simp only [IntKind.wrap_i64] at *; omega)) kI))
 ·exact fun _ _ h => os rfl ((yl_load1 Try.ty9 rfl (h.dt 5 10 rfl rfl rfl) ((Cells.ex eC35 h.ex) 0 _ rfl) kI))
 ·intro L86 w87 hi88
  have hE89 := hi88.ex
  have hE89z := Ex.size hE89
  have hol92 : p_t.Name.length ≤ 1073741824 := o3.1
  have hol93 : (p_r.Vals.getD 0 d_Str).length ≤ 1073741824 := (okL.getD o5 ok_d_Str _)
  exact os rfl ((yl_sadd (a := (p_t.Name ++ ([47] : Str))) (b := (p_r.Vals.getD 0 d_Str)) rfl (hi88.dt 2 7 rfl rfl rfl) (hi88.dt 6 11 rfl rfl rfl) (by first | omega | (simp only [List.length_append, List.length_cons, List.length_nil, List.length_take, List.length_drop, toS_length]; omega)) kI))
 ·exact fun _ _ h => os rfl ((yl_fieldAddr Try.fd67_0 rfl (h.old 3 _ rfl rfl) kI))
 ·exact fun _ _ h => os rfl ((yl_load1 Try.ty52 rfl (h.dt 8 13 rfl rfl rfl) (((Box.ex q31 h.ex).cell 0).trans rfl) kI))
 ·intro L105 w106 hi107
  have hE108 := hi107.ex
  have hE108z := Ex.size hE108
  have q110 := RdS.ex good_Str q34 hE108
  obtain ⟨A111, c112, he115, h114⟩ := RdS.sl (RdS.drop q110 (k := 1) (by omega))
  have hrc116 := (q110).2.1
  exact os rfl ((yl_sliceR (kh := .i64) (l := 1) (h := p_r.Vals.length) Try.un52 Try.ty9 rfl (hi107.dt 9 14 rfl rfl rfl) (.inr ⟨_, rfl, rfl⟩) (.inl ⟨rfl, rfl⟩) (by omega) (by omega) he115 ⟨fun _ _ => ⟨A111, c112, rfl, h114⟩, rfl⟩))
 ·intro L117 w118 hi119
  obtain ⟨lo122, hh123, _, hx121, hr124, hr125, hr126, A38_127, c39_128, rfl, h129⟩ := hi119.dep 10 15 rfl rfl
  refine OpR.op' rfl (yl_call Try.en218 rfl (opvs_cons hx121 (opvs_cons rfl opvs_nil)) (Cal.mono (c_g_strings_Join (p_r.Vals.drop 1) ([44] : Str) (RdS.up h129 good_Str) (okL.drop o5 _) (okS.lit rfl) (join_drop pre1 pre2)) ?_))
  rintro v132 w130 ⟨rfl, ho131, hE133⟩
  exact ⟨⟨rfl, ho131⟩, hE133⟩
 ·intro fl137 fh138 L134 w135 hp136
  have hE139 := hp136.ex
  have hE139z := Ex.size hE139
  have hx140 := hp136.old 4 _ rfl rfl
  obtain ⟨_, hx142, rfl, h143⟩ := hp136.new 11 16 rfl rfl
  refine sd rfl (yl_build (cs := [.string (bs ((p_t.Name ++ ([47] : Str)) ++ (p_r.Vals.getD 0 d_Str))), .string (bs ((g_strings_Join (p_r.Vals.drop 1) ([44] : Str)))), .bool (false)]) rfl (opvs_cons (hp136.nt 7 12 rfl rfl rfl) (opvs_cons hx142 opvs_nil)) (by kernel_rfl) (SeqR.u rfl rfl (yl_store (vs := [.string (bs ((p_t.Name ++ ([47] : Str)) ++ (p_r.Vals.getD 0 d_Str))), .string (bs ((g_strings_Join (p_r.Vals.drop 1) ([44] : Str)))), .bool (false)]) Try.ty125 rfl hx140 rfl rfl rfl rfl (Box.ex hB26 hE139) (Nat.le_of_ble_eq_true rfl) ?_)))
  intro w145 hB146 hO147
  have hB146 : Box w145 b22 125 [.string (bs ((p_t.Name ++ ([47] : Str)) ++ (p_r.Vals.getD 0 d_Str))), .string (bs ((g_strings_Join (p_r.Vals.drop 1) ([44] : Str)))), .bool (false)] := hB146
  have hO147z := hO147.size
  refine SeqR.done (tn (CW.sub (Sub.cons (d := 4) hx140 (Sub.nil _)) (CW.ret (rr rfl (.cons ⟨_, rfl, run_loadN Try.ty125 (cs := [.string (bs ((p_t.Name ++ ([47] : Str)) ++ (p_r.Vals.getD 0 d_Str))), .string (bs ((g_strings_Join (p_r.Vals.drop 1) ([44] : Str)))), .bool (false)]) rfl (hB146.cells (n := 3) rfl)⟩ .nil) ?_))))
  have hM148 : (i_Table_rowWrite p_t p_r) = ((⟨(p_t.Name ++ ([47] : Str)) ++ (p_r.Vals.getD 0 d_Str), (g_strings_Join (p_r.Vals.drop 1) ([44] : Str)), false⟩ : DWrite)) := by simp only [i_Table_rowWrite, cond_true, cond_false, loopE_done, loopE_ret]
  rw [hM148]
  exact ⟨rfl, (Below.only (Ex.trans (Ex.trans (Ex.trans (Ex.trans (Ex.refl w) hE15) hE21) hE27) hE139) hO147 (by omega))⟩
set_option maxRecDepth 100000 in
set_option maxHeartbeats 2000000 in
theorem c_i_Table_idxHead {A1 : Option Addr} {c1 : Nat} {A2 : Option Addr} {c2 : Nat} {w : World} (p_t : DTable) (p_name : Str) (h1 : RdS w (Iv 0 w.heap.size) (RF e_Str) 1 A1 p_t.Cols.length c1 p_t.Cols) (h2 : RdS w (Iv 0 w.heap.size) (RF e_Idx) 3 A2 p_t.Idxs.length c2 p_t.Idxs) (o3 : ok_Table p_t) (o4 : okS p_name) : Cal Try.prog 219 #[.agg #[.string (bs (p_t.Name)), .slice A1 p_t.Cols.length c1, .slice A2 p_t.Idxs.length c2], .string (bs (p_name))] w fun v w' => v = .string (bs ((i_Table_idxHead p_t p_name))) ∧ Ex w w' := by
 have hol5 : p_t.Name.length ≤ 1073741824 := o3.1
 have hol6 := o3.2.1.1
 have hol7 := o3.2.2.1
 have hol8 : p_name.length ≤ 1073741824 := o4
 refine Cal.of (vs := [.agg #[.string (bs (p_t.Name)), .slice A1 p_t.Cols.length c1, .slice A2 p_t.Idxs.length c2], .string (bs (p_name))]) Try.func219 rfl Try.ntmps219 rfl (CW.seq (CW.region (sd rfl (yl_box (cs := [.string (bs (p_t.Name)), .slice A1 p_t.Cols.length c1, .slice A2 p_t.Idxs.length c2]) rfl rfl rfl ?_))))
 intro b9 w10 hs11 hz12 hB13 hE14
 refine sd rfl (yl_assign rfl rfl (SeqR.done (tn (CW.seq (CW.region (sd rfl (yl_fieldAddr Try.fd65_0 rfl rfl (sd rfl (yl_load1 Try.ty9 rfl rfl ((hB13.cell 0).trans rfl) ?_)))))))))
 have hol15 : p_t.Name.length ≤ 1073741824 := o3.1
 refine sd rfl (yl_sadd (a := p_t.Name) (b := ([46] : Str)) rfl rfl rfl (by first | omega | (simp only [List.length_append, List.length_cons, List.length_nil, List.length_take, List.length_drop, toS_length]; omega)) (sd rfl (yl_move rfl rfl ?_)))
 have hol16 : p_t.Name.length ≤ 1073741824 := o3.1
 have hol17 : p_name.length ≤ 1073741824 := o4
 refine sd rfl (yl_sadd (a := (p_t.Name ++ ([46] : Str))) (b := p_name) rfl rfl rfl (by first | omega | (simp only [List.length_append, List.length_cons, List.length_nil, List.length_take, List.length_drop, toS_length]; omega)) ?_)
 have hol18 : p_t.Name.length ≤ 1073741824 := o3.1
 have hol19 : p_name.length ≤ 1073741824 := o4
 refine sd rfl (yl_sadd (a := ((p_t.Name ++ ([46] : Str)) ++ p_name)) (b := ([47] : Str)) rfl rfl rfl (by first | omega | (simp only [List.length_append, List.length_cons, List.length_nil, List.length_take, List.length_drop, toS_length]; omega)) (sd rfl (yl_assign rfl rfl (SeqR.done (tn (CW.ret (rr rfl (.cons rfl .nil) ?_)))))))
 have hM20 : (i_Table_idxHead p_t p_name) = (((p_t.Name ++ ([46] : Str)) ++ p_name) ++ ([47] : Str)) := by simp only [i_Table_idxHead, cond_true, cond_false, loopE_done, loopE_ret]
 rw [hM20]
 exact ⟨rfl, (Ex.trans (Ex.refl w) hE14)⟩
set_option maxRecDepth 100000 in
set_option maxHeartbeats 2000000 in
theorem c_i_Table_idx {A1 : Option Addr} {c1 : Nat} {A2 : Option Addr} {c2 : Nat} {w : World} (p_t : DTable) (p_name : Str) (h1 : RdS w (Iv 0 w.heap.size) (RF e_Str) 1 A1 p_t.Cols.length c1 p_t.Cols) (h2 : RdS w (Iv 0 w.heap.size) (RF e_Idx) 3 A2 p_t.Idxs.length c2 p_t.Idxs) (o3 : ok_Table p_t) (o4 : okS p_name) (pre0 : (0 ≤ i_Table_findIdx p_t p_name ∧ i_Table_findIdx p_t p_name < (p_t.Idxs.length : Int))) : Cal Try.prog 220 #[.agg #[.string (bs (p_t.Name)), .slice A1 p_t.Cols.length c1, .slice A2 p_t.Idxs.length c2], .string (bs (p_name))] w fun v w' => v = .agg #[.string (bs ((i_Table_idx p_t p_name).Name)), .int .i64 ((i_Table_idx p_t p_name).Col), .int .i64 ((i_Table_idx p_t p_name).Stage)] ∧ ok_Idx (i_Table_idx p_t p_name) ∧ Ex w w' := by
 have hol5 : p_t.Name.length ≤ 1073741824 := o3.1
 have hol6 := o3.2.1.1
 have hol7 := o3.2.2.1
 have hol8 : p_name.length ≤ 1073741824 := o4
 refine Cal.of (vs := [.agg #[.string (bs (p_t.Name)), .slice A1 p_t.Cols.length c1, .slice A2 p_t.Idxs.length c2], .string (bs (p_name))]) Try.func220 rfl Try.ntmps220 rfl (CW.seq (CW.region (sd rfl (yl_box (cs := [.string (bs (p_t.Name)), .slice A1 p_t.Cols.length c1, .slice A2 p_t.Idxs.length c2]) rfl rfl rfl ?_))))
 intro b9 w10 hs11 hz12 hB13 hE14
 refine sd rfl (yl_alloc Try.ty152 (cs := [.string (bs (([] : Str))), .int .i64 (0), .int .i64 (0)]) rfl rfl ?_)
 intro b15 w16 hs17 hz18 hB19 hE20
 refine SeqR.done (tn (CW.seq ?_))
 have q21 := Box.ex hB13 hE20
 have q25 := RdS.ex good_Idx (RdS.ex good_Idx h2 hE14) hE20
 have hrf27 := rf_i_findIdx p_t p_name
 refine CW.drawsI 5 (vgetI [DetI (.pointer (some ⟨b9, 0 + 2, none⟩)), DetI (.slice A2 p_t.Idxs.length c2), DetI (.agg #[.string (bs (p_t.Name)), .slice A1 p_t.Cols.length c1, .slice A2 p_t.Idxs.length c2]), DetI (.string (bs (p_name))), DetI (.int .i64 ((i_Table_findIdx p_t p_name)))]) Try.follows rfl rfl rfl rfl rfl rfl (vgetI_stable ⟨StableI.det _, StableI.det _, StableI.det _, StableI.det _, StableI.det _, trivial⟩) ⟨?_, ?_, ?_, ?_, ?_, trivial⟩ ?_
 ·exact fun _ _ h => os rfl ((yl_fieldAddr Try.fd65_2 rfl (h.old 2 _ rfl rfl) kI))
 ·exact fun _ _ h => os rfl ((yl_load1 Try.ty63 rfl (h.dt 0 5 rfl rfl rfl) (((Box.ex q21 h.ex).cell 2).trans rfl) kI))
 ·exact fun _ _ h => os rfl ((yl_loadN (cs := [.string (bs (p_t.Name)), .slice A1 p_t.Cols.length c1, .slice A2 p_t.Idxs.length c2]) Try.ty65 rfl (h.old 2 _ rfl rfl) ((Box.ex q21 h.ex).cells (n := 3) rfl) rfl kI))
 ·exact fun _ _ h => os rfl ((yl_move rfl (h.old 1 _ rfl rfl) kI))
 ·intro L50 w51 hi52
  have hE53 := hi52.ex
  refine OpR.op' rfl (yl_call Try.en168 rfl (opvs_cons (hi52.dt 2 7 rfl rfl rfl) (opvs_cons (hi52.dt 3 8 rfl rfl rfl) opvs_nil)) (Cal.mono (c_i_Table_findIdx p_t p_name (RdS.up (RdS.ex good_Str (RdS.ex good_Str (RdS.ex good_Str h1 hE14) hE20) hE53) good_Str) (RdS.up (RdS.ex good_Idx q25 hE53) good_Idx) o3 o4) ?_))
  rintro v59 w58 ⟨rfl, hE60⟩
  exact ⟨rfl, hE60⟩
 ·intro fl64 fh65 L61 w62 hp63
  have hE66 := hp63.ex
  have hE66z := Ex.size hE66
  have hx67 := hp63.old 4 _ rfl rfl
  obtain ⟨eb71, eo71, ec71, eA71, eS71, ebl71, el71, eR71, eC71⟩ := RdS.atD (RdS.ex good_Idx q25 hE66) d_Idx (i := ((i_Table_findIdx p_t p_name)).toNat) (by first | omega | assumption | (simp only [IntKind.wrap_i64] at *; omega))
  obtain rfl := eR71
  have eC71 : Cells w62 eb71 (eo71 + (((i_Table_findIdx p_t p_name)).toNat) * 3) [.string (bs ((p_t.Idxs.getD (((i_Table_findIdx p_t p_name)).toNat) d_Idx).Name)), .int .i64 ((p_t.Idxs.getD (((i_Table_findIdx p_t p_name)).toNat) d_Idx).Col), .int .i64 ((p_t.Idxs.getD (((i_Table_findIdx p_t p_name)).toNat) d_Idx).Stage)] := eC71
  refine sd rfl (yl_indexAddr Try.un63 Try.ty152 rfl (hp63.nt 1 6 rfl rfl rfl) (hp63.nt 4 9 rfl rfl rfl) eA71 (by first | omega | assumption | (simp only [IntKind.wrap_i64] at *; omega)) (by first | omega | assumption | (simp only [IntKind.wrap_i64] at *; omega)) (sd rfl (yl_loadN (cs := [.string (bs ((p_t.Idxs.getD (((i_Table_findIdx p_t p_name)).toNat) d_Idx).Name)), .int .i64 ((p_t.Idxs.getD (((i_Table_findIdx p_t p_name)).toNat) d_Idx).Col), .int .i64 ((p_t.Idxs.getD (((i_Table_findIdx p_t p_name)).toNat) d_Idx).Stage)]) Try.ty152 rfl rfl eC71 rfl (SeqR.u rfl rfl (yl_store (vs := [.string (bs ((p_t.Idxs.getD (((i_Table_findIdx p_t p_name)).toNat) d_Idx).Name)), .int .i64 ((p_t.Idxs.getD (((i_Table_findIdx p_t p_name)).toNat) d_Idx).Col), .int .i64 ((p_t.Idxs.getD (((i_Table_findIdx p_t p_name)).toNat) d_Idx).Stage)]) Try.ty152 rfl hx67 rfl rfl rfl rfl (Box.ex hB19 hE66) (Nat.le_of_ble_eq_true rfl) ?_)))))
  intro w73 hB74 hO75
  have hB74 : Box w73 b15 152 [.string (bs ((p_t.Idxs.getD (((i_Table_findIdx p_t p_name)).toNat) d_Idx).Name)), .int .i64 ((p_t.Idxs.getD (((i_Table_findIdx p_t p_name)).toNat) d_Idx).Col), .int .i64 ((p_t.Idxs.getD (((i_Table_findIdx p_t p_name)).toNat) d_Idx).Stage)] := hB74
  have hO75z := hO75.size
  refine SeqR.done (tn (CW.sub (Sub.cons (d := 4) hx67 (Sub.nil _)) (CW.ret (rr rfl (.cons ⟨_, rfl, run_loadN Try.ty152 (cs := [.string (bs ((p_t.Idxs.getD (((i_Table_findIdx p_t p_name)).toNat) d_Idx).Name)), .int .i64 ((p_t.Idxs.getD (((i_Table_findIdx p_t p_name)).toNat) d_Idx).Col), .int .i64 ((p_t.Idxs.getD (((i_Table_findIdx p_t p_name)).toNat) d_Idx).Stage)]) rfl (hB74.cells (n := 3) rfl)⟩ .nil) ?_))))
  have hM76 : (i_Table_idx p_t p_name) = ((p_t.Idxs.getD (((i_Table_findIdx p_t p_name)).toNat) d_Idx)) := by simp only [i_Table_idx, cond_true, cond_false, loopE_done, loopE_ret]
  rw [hM76]
  exact ⟨rfl, (okL.getD o3.2.2 ok_d_Idx _), (Below.only (Ex.trans (Ex.trans (Ex.trans (Ex.refl w) hE14) hE20) hE66) hO75 (by omega))⟩
set_option maxRecDepth 100000 in
set_option maxHeartbeats 2000000 in
theorem c_i_Table_idxKey {A1 : Option Addr} {c1 : Nat} {A2 : Option Addr} {c2 : Nat} {A5 : Option Addr} {c5 : Nat} {w : World} (p_t : DTable) (p_name : Str) (p_r : DRow) (h1 : RdS w (Iv 0 w.heap.size) (RF e_Str) 1 A1 p_t.Cols.length c1 p_t.Cols) (h2 : RdS w (Iv 0 w.heap.size) (RF e_Idx) 3 A2 p_t.Idxs.length c2 p_t.Idxs) (h5 : RdS w (Iv 0 w.heap.size) (RF e_Str) 1 A5 p_r.Vals.length c5 p_r.Vals) (o3 : ok_Table p_t) (o4 : okS p_name) (o6 : ok_Row p_r) (pre0 : (0 ≤ i_Table_findIdx p_t p_name ∧ i_Table_findIdx p_t p_name < (p_t.Idxs.length : Int))) (pre1 : (0 ≤ (i_Table_idx p_t p_name).Col ∧ (i_Table_idx p_t p_name).Col < (p_r.Vals.length : Int))) (pre2 : (p_t.Name.length ≤ 1 ∧ p_name.length ≤ 1)) (pre3 : rowShort p_r) : Cal Try.prog 170 #[.agg #[.string (bs (p_t.Name)), .slice A1 p_t.Cols.length c1, .slice A2 p_t.Idxs.length c2], .string (bs (p_name)), .agg #[.slice A5 p_r.Vals.length c5]] w fun v w' => v = .string (bs ((i_Table_idxKey p_t p_name p_r))) ∧ okS (i_Table_idxKey p_t p_name p_r) ∧ Ex w w' := by
 have hol7 : p_t.Name.length ≤ 1073741824 := o3.1
 have hol8 := o3.2.1.1
 have hol9 := o3.2.2.1
 have hol10 : p_name.length ≤ 1073741824 := o4
 have hol11 := o6.1
 refine Cal.of (vs := [.agg #[.string (bs (p_t.Name)), .slice A1 p_t.Cols.length c1, .slice A2 p_t.Idxs.length c2], .string (bs (p_name)), .agg #[.slice A5 p_r.Vals.length c5]]) Try.func170 rfl Try.ntmps170 rfl (CW.seq (CW.region (sd rfl (yl_box (cs := [.string (bs (p_t.Name)), .slice A1 p_t.Cols.length c1, .slice A2 p_t.Idxs.length c2]) rfl rfl rfl ?_))))
 intro b12 w13 hs14 hz15 hB16 hE17
 refine sd rfl (yl_box (cs := [.slice A5 p_r.Vals.length c5]) rfl rfl rfl ?_)
 intro b18 w19 hs20 hz21 hB22 hE23
 refine sd rfl (yl_assign rfl rfl (SeqR.done (tn (CW.seq ?_))))
 have q24 := Box.ex hB16 hE23
 have q26 := RdS.ex good_Str (RdS.ex good_Str h1 hE17) hE23
 have q28 := RdS.ex good_Idx (RdS.ex good_Idx h2 hE17) hE23
 have q33 := RdS.ex good_Str (RdS.ex good_Str h5 hE17) hE23
 obtain ⟨eb34, eo34, ec34, eA34, eS34, ebl34, el34, eR34, eC34⟩ := RdS.atD q33 d_Str (i := ((i_Table_idx p_t p_name).Col).toNat) (by first | omega | assumption | (simp only [IntKind.wrap_i64] at *; omega))
 obtain rfl := eR34
 have eC34 : Cells w19 eb34 (eo34 + (((i_Table_idx p_t p_name).Col).toNat) * 1) [.string (bs ((p_r.Vals.getD (((i_Table_idx p_t p_name).Col).toNat) d_Str)))] := eC34
 have hol35 : (p_r.Vals.getD (((i_Table_idx p_t p_name).Col).toNat) d_Str).length ≤ 1073741824 := (okL.getD o6 ok_d_Str _)
 have hol36 : (p_r.Vals.getD (((i_Table_idx p_t p_name).Col).toNat) d_Str).length ≤ 1073741824 := (okL.getD o6 ok_d_Str _)
 obtain ⟨eb37, eo37, ec37, eA37, eS37, ebl37, el37, eR37, eC37⟩ := RdS.atD q33 d_Str (i := 0) (by first | omega | assumption)
 obtain rfl := eR37
 have eC37 : Cells w19 eb37 (eo37 + 0 * 1) [.string (bs ((p_r.Vals.getD 0 d_Str)))] := eC37
 have hol38 : (p_r.Vals.getD (((i_Table_idx p_t p_name).Col).toNat) d_Str).length ≤ 1073741824 := (okL.getD o6 ok_d_Str _)
 have hol39 : (p_r.Vals.getD 0 d_Str).length ≤ 1073741824 := (okL.getD o6 ok_d_Str _)
 have hrf40 := rf_idxHead p_t p_name
 refine CW.drawsI 19 (vgetI [DetI (.agg #[.string (bs (p_t.Name)), .slice A1 p_t.Cols.length c1, .slice A2 p_t.Idxs.length c2]), DetI (.string (bs (p_name))), DetI (.string (bs ((i_Table_idxHead p_t p_name)))), DetI (.pointer (some ⟨b18, 0 + 0, none⟩)), DetI (.slice A5 p_r.Vals.length c5), DetI (.agg #[.string (bs (p_t.Name)), .slice A1 p_t.Cols.length c1, .slice A2 p_t.Idxs.length c2]), DetI (.string (bs (p_name))), fun lo hi v wq => v = .agg #[.string (bs ((i_Table_idx p_t p_name).Name)), .int .i64 ((i_Table_idx p_t p_name).Col), .int .i64 ((i_Table_idx p_t p_name).Stage)] ∧ ok_Idx (i_Table_idx p_t p_name), DetI (.int .i64 ((i_Table_idx p_t p_name).Col)), DetI (.pointer (some ⟨eb34, eo34 + (((i_Table_idx p_t p_name).Col).toNat) * 1, none⟩)), DetI (.string (bs ((p_r.Vals.getD (((i_Table_idx p_t p_name).Col).toNat) d_Str)))), DetI (.string (bs ((i_Table_idxHead p_t p_name) ++ (p_r.Vals.getD (((i_Table_idx p_t p_name).Col).toNat) d_Str)))), DetI (.string (bs (((i_Table_idxHead p_t p_name) ++ (p_r.Vals.getD (((i_Table_idx p_t p_name).Col).toNat) d_Str)) ++ ([47] : Str)))), DetI (.pointer (some ⟨b18, 0 + 0, none⟩)), DetI (.slice A5 p_r.Vals.length c5), DetI (.pointer (some ⟨eb37, eo37 + 0 * 1, none⟩)), DetI (.string (bs ((p_r.Vals.getD 0 d_Str)))), DetI (.string (bs ((((i_Table_idxHead p_t p_name) ++ (p_r.Vals.getD (((i_Table_idx p_t p_name).Col).toNat) d_Str)) ++ ([47] : Str)) ++ (p_r.Vals.getD 0 d_Str)))), DetI (.string (bs ((((i_Table_idxHead p_t p_name) ++ (p_r.Vals.getD (((i_Table_idx p_t p_name).Col).toNat) d_Str)) ++ ([47] : Str)) ++ (p_r.Vals.getD 0 d_Str))))]) Try.follows rfl rfl rfl rfl rfl rfl (vgetI_stable ⟨StableI.det _, StableI.det _, StableI.det _, StableI.det _, StableI.det _, StableI.det _, StableI.det _, (fun _ _ _ _ _ ⟨hv, ho31⟩ e => ⟨hv, ho31⟩), StableI.det _, StableI.det _, StableI.det _, StableI.det _, StableI.det _, StableI.det _, StableI.det _, StableI.det _, StableI.det _, StableI.det _, StableI.det _, trivial⟩) ⟨?_, ?_, ?_, ?_, ?_, ?_, ?_, ?_, ?_, ?_, ?_, ?_, ?_, ?_, ?_, ?_, ?_, ?_, ?_, trivial⟩ ?_
 ·exact fun _ _ h => os rfl ((yl_loadN (cs := [.string (bs (p_t.Name)), .slice A1 p_t.Cols.length c1, .slice A2 p_t.Idxs.length c2]) Try.ty65 rfl (h.old 3 _ rfl rfl) ((Box.ex q24 h.ex).cells (n := 3) rfl) rfl kI))
 ·exact fun _ _ h => os rfl ((yl_move rfl (h.old 1 _ rfl rfl) kI))
 ·intro L52 w53 hi54
  have hE55 := hi54.ex
  refine OpR.op' rfl (yl_call Try.en219 rfl (opvs_cons (hi54.dt 0 7 rfl rfl rfl) (opvs_cons (hi54.dt 1 8 rfl rfl rfl) opvs_nil)) (Cal.mono (c_i_Table_idxHead p_t p_name (RdS.up (RdS.ex good_Str q26 hE55) good_Str) (RdS.up (RdS.ex good_Idx q28 hE55) good_Idx) o3 o4) ?_))
  rintro v61 w60 ⟨rfl, hE62⟩
  exact ⟨rfl, hE62⟩
 ·exact fun _ _ h => os rfl ((yl_fieldAddr Try.fd67_0 rfl (h.old 5 _ rfl rfl) kI))
 ·exact fun _ _ h => os rfl ((yl_load1 Try.ty52 rfl (h.dt 3 10 rfl rfl rfl) (((Box.ex hB22 h.ex).cell 0).trans rfl) kI))
 ·exact fun _ _ h => os rfl ((yl_loadN (cs := [.string (bs (p_t.Name)), .slice A1 p_t.Cols.length c1, .slice A2 p_t.Idxs.length c2]) Try.ty65 rfl (h.old 3 _ rfl rfl) ((Box.ex q24 h.ex).cells (n := 3) rfl) rfl kI))
 ·exact fun _ _ h => os rfl ((yl_move rfl (h.old 1 _ rfl rfl) kI))
 ·intro L85 w86 hi87
  have hE88 := hi87.ex
  have hE88z := Ex.size hE88
  refine OpR.op' rfl (yl_call Try.en220 rfl (opvs_cons (hi87.dt 5 12 rfl rfl rfl) (opvs_cons (hi87.dt 6 13 rfl rfl rfl) opvs_nil)) (Cal.mono (c_i_Table_idx p_t p_name (RdS.up (RdS.ex good_Str q26 hE88) good_Str) (RdS.up (RdS.ex good_Idx q28 hE88) good_Idx) o3 o4 (by first | omega | assumption | (simp only [IntKind.wrap_i64] at *; omega))) ?_))
  rintro v95 w93 ⟨rfl, ho94, hE96⟩
  exact ⟨⟨rfl, ho94⟩, hE96⟩
 ·intro L97 w98 hi99
  obtain ⟨lo102, hh103, _, hx101, hr104, hr105, hr106, rfl, h107⟩ := hi99.dep 7 14 rfl rfl
  exact os rfl ((yl_field1 Try.fd152_1 rfl hx101 rfl kI))
 ·intro L108 w109 hi110
  have hE111 := hi110.ex
  have hE111z := Ex.size hE111
  exact os rfl ((yl_indexAddr Try.un52 Try.ty9 rfl (hi110.dt 4 11 rfl rfl rfl) (hi110.dt 8 15 rfl rfl rfl) eA34 (by first | omega | assumption | (simp only [IntKind.wrap_i64] at *; omega)) (by first | omega | assumption | (simp only [IntKind.wrap_i64] at *; omega)) kI))
 ·exact fun _ _ h => os rfl ((yl_load1 Try.ty9 rfl (h.dt 9 16 rfl rfl rfl) ((Cells.ex eC34 h.ex) 0 _ rfl) kI))
 ·intro L120 w121 hi122
  have hE123 := hi122.ex
  have hE123z := Ex.size hE123
  have hol126 : (p_r.Vals.getD (((i_Table_idx p_t p_name).Col).toNat) d_Str).length ≤ 1073741824 := (okL.getD o6 ok_d_Str _)
  exact os rfl ((yl_sadd (a := (i_Table_idxHead p_t p_name)) (b := (p_r.Vals.getD (((i_Table_idx p_t p_name).Col).toNat) d_Str)) rfl (hi122.dt 2 9 rfl rfl rfl) (hi122.dt 10 17 rfl rfl rfl) (by first | omega | (simp only [List.length_append, List.length_cons, List.length_nil, List.length_take, List.length_drop, toS_length]; omega)) kI))
 ·intro L127 w128 hi129
  have hE130 := hi129.ex
  have hE130z := Ex.size hE130
  have hol132 : (p_r.Vals.getD (((i_Table_idx p_t p_name).Col).toNat) d_Str).length ≤ 1073741824 := (okL.getD o6 ok_d_Str _)
  exact os rfl ((yl_sadd (a := ((i_Table_idxHead p_t p_name) ++ (p_r.Vals.getD (((i_Table_idx p_t p_name).Col).toNat) d_Str))) (b := ([47] : Str)) rfl (hi129.dt 11 18 rfl rfl rfl) rfl (by first | omega | (simp only [List.length_append, List.length_cons, List.length_nil, List.length_take, List.length_drop, toS_length]; omega)) kI))
 ·exact fun _ _ h => os rfl ((yl_fieldAddr Try.fd67_0 rfl (h.old 5 _ rfl rfl) kI))
 ·exact fun _ _ h => os rfl ((yl_load1 Try.ty52 rfl (h.dt 13 20 rfl rfl rfl) (((Box.ex hB22 h.ex).cell 0).trans rfl) kI))
 ·intro L144 w145 hi146
  have hE147 := hi146.ex
  have hE147z := Ex.size hE147
  exact os rfl ((yl_indexAddrN Try.un52 Try.ty9 rfl (hi146.dt 14 21 rfl rfl rfl) rfl eA37 (by first | omega | assumption | (simp only [IntKind.wrap_i64] at *; omega)) kI))
 ·exact fun _ _ h => os rfl ((yl_load1 Try.ty9 rfl (h.dt 15 22 rfl rfl rfl) ((Cells.ex eC37 h.ex) 0 _ rfl) kI))
 ·intro L155 w156 hi157
  have hE158 := hi157.ex
  have hE158z := Ex.size hE158
  have hol161 : (p_r.Vals.getD (((i_Table_idx p_t p_name).Col).toNat) d_Str).length ≤ 1073741824 := (okL.getD o6 ok_d_Str _)
  have hol162 : (p_r.Vals.getD 0 d_Str).length ≤ 1073741824 := (okL.getD o6 ok_d_Str _)
  exact os rfl ((yl_sadd (a := (((i_Table_idxHead p_t p_name) ++ (p_r.Vals.getD (((i_Table_idx p_t p_name).Col).toNat) d_Str)) ++ ([47] : Str))) (b := (p_r.Vals.getD 0 d_Str)) rfl (hi157.dt 12 19 rfl rfl rfl) (hi157.dt 16 23 rfl rfl rfl) (by first | omega | (simp only [List.length_append, List.length_cons, List.length_nil, List.length_take, List.length_drop, toS_length]; omega)) kI))
 ·exact fun _ _ h => os rfl ((yl_assign rfl (h.dt 17 24 rfl rfl rfl) kI))
 ·intro fl171 fh172 L168 w169 hp170
  have hE173 := hp170.ex
  have hE173z := Ex.size hE173
  refine SeqR.done (tn (CW.sub (Sub.cons (d := 6) (hp170.nt 18 6 rfl rfl rfl) (Sub.nil _)) (CW.ret (rr rfl (.cons rfl .nil) ?_))))
  have hM175 : (i_Table_idxKey p_t p_name p_r) = ((((i_Table_idxHead p_t p_name) ++ (p_r.Vals.getD (((i_Table_idx p_t p_name).Col).toNat) d_Str)) ++ ([47] : Str)) ++ (p_r.Vals.getD 0 d_Str)) := by simp only [i_Table_idxKey, cond_true, cond_false, loopE_done, loopE_ret]
  rw [hM175]
  exact ⟨rfl, (okS_idxKey pre2 pre3), (Ex.trans (Ex.trans (Ex.trans (Ex.refl w) hE17) hE23) hE173)⟩
set_option maxRecDepth 100000 in
set_option maxHeartbeats 2000000 in
theorem c_i_Table_fillOps {A1 : Option Addr} {c1 : Nat} {A2 : Option Addr} {c2 : Nat} {A5 : Option Addr} {c5 : Nat} {w : World} (p_t : DTable) (p_name : Str) (p_r : DRow) (h1 : RdS w (Iv 0 w.heap.size) (RF e_Str) 1 A1 p_t.Cols.length c1 p_t.Cols) (h2 : RdS w (Iv 0 w.heap.size) (RF e_Idx) 3 A2 p_t.Idxs.length c2 p_t.Idxs) (h5 : RdS w (Iv 0 w.heap.size) (RF e_Str) 1 A5 p_r.Vals.length c5 p_r.Vals) (o3 : ok_Table p_t) (o4 : okS p_name) (o6 : ok_Row p_r) (pre0 : (0 ≤ i_Table_findIdx p_t p_name ∧ i_Table_findIdx p_t p_name < (p_t.Idxs.length : Int))) (pre1 : (0 ≤ (i_Table_idx p_t p_name).Col ∧ (i_Table_idx p_t p_name).Col < (p_r.Vals.length : Int))) (pre2 : (p_t.Name.length ≤ 1 ∧ p_name.length ≤ 1)) (pre3 : rowShort p_r) (pre4 : 0 < p_r.Vals.length) (pre5 : p_r.Vals.length ≤ 4) : Cal Try.prog 110 #[.agg #[.string (bs (p_t.Name)), .slice A1 p_t.Cols.length c1, .slice A2 p_t.Idxs.length c2], .string (bs (p_name)), .agg #[.slice A5 p_r.Vals.length c5]] w fun v w' => ∃ A_1 c_1 lo_1 hi_1, v = .slice A_1 ((i_Table_fillOps p_t p_name p_r).length) c_1 ∧ OwnL w' lo_1 hi_1 163 4 (RF e_Op) A_1 ((i_Table_fillOps p_t p_name p_r).length) c_1 (i_Table_fillOps p_t p_name p_r) ∧ (w.heap.size ≤ lo_1 ∧ lo_1 ≤ hi_1 ∧ hi_1 ≤ w'.heap.size) ∧ Ex w w' := by
 have hol7 : p_t.Name.length ≤ 1073741824 := o3.1
 have hol8 := o3.2.1.1
 have hol9 := o3.2.2.1
 have hol10 : p_name.length ≤ 1073741824 := o4
 have hol11 := o6.1
 refine Cal.of (vs := [.agg #[.string (bs (p_t.Name)), .slice A1 p_t.Cols.length c1, .slice A2 p_t.Idxs.length c2], .string (bs (p_name)), .agg #[.slice A5 p_r.Vals.length c5]]) Try.func110 rfl Try.ntmps110 rfl (CW.seq (CW.region (sd rfl (yl_box (cs := [.string (bs (p_t.Name)), .slice A1 p_t.Cols.length c1, .slice A2 p_t.Idxs.length c2]) rfl rfl rfl ?_))))
 intro b12 w13 hs14 hz15 hB16 hE17
 refine sd rfl (yl_box (cs := [.slice A5 p_r.Vals.length c5]) rfl rfl rfl ?_)
 intro b18 w19 hs20 hz21 hB22 hE23
 refine sd rfl (yl_assign rfl rfl (SeqR.done (tn (CW.seq (CW.region ?_)))))
 have q24 := Box.ex hB16 hE23
 refine sd rfl (yl_loadN (cs := [.string (bs (p_t.Name)), .slice A1 p_t.Cols.length c1, .slice A2 p_t.Idxs.length c2]) Try.ty65 rfl rfl (q24.cells (n := 3) rfl) rfl (sd rfl (yl_loadN (cs := [.slice A5 p_r.Vals.length c5]) Try.ty67 rfl rfl (hB22.cells (n := 1) rfl) rfl ?_)))
 have q26 := RdS.ex good_Str (RdS.ex good_Str h1 hE17) hE23
 have q28 := RdS.ex good_Idx (RdS.ex good_Idx h2 hE17) hE23
 have q30 := RdS.ex good_Str (RdS.ex good_Str h5 hE17) hE23
 refine sd rfl (yl_call Try.en169 rfl (opvs_cons rfl (opvs_cons rfl opvs_nil)) (Cal.mono (c_i_Table_rowWrite p_t p_r (RdS.up q26 good_Str) (RdS.up q28 good_Idx) (RdS.up q30 good_Str) o3 o6 (by first | omega | assumption | (simp only [IntKind.wrap_i64] at *; omega)) (by first | omega | assumption | (simp only [IntKind.wrap_i64] at *; omega)) (by first | omega | assumption | (simp only [IntKind.wrap_i64] at *; omega))) ?_))
 rintro v32 w31 ⟨rfl, hE33⟩
 have hE33z := Ex.size hE33
 refine sd rfl (yl_alloc Try.ty125 (cs := [.string (bs (([] : Str))), .string (bs (([] : Str))), .bool (false)]) rfl rfl ?_)
 intro b34 w35 hs36 hz37 hB38 hE39
 refine SeqR.u rfl rfl (yl_store (vs := [.string (bs ((i_Table_rowWrite p_t p_r).Key)), .string (bs ((i_Table_rowWrite p_t p_r).Val)), .bool ((i_Table_rowWrite p_t p_r).Gone)]) Try.ty125 rfl rfl rfl rfl rfl rfl hB38 (Nat.le_of_ble_eq_true rfl) ?_)
 intro w40 hB41 hO42
 have hB41 : Box w40 b34 125 [.string (bs ((i_Table_rowWrite p_t p_r).Key)), .string (bs ((i_Table_rowWrite p_t p_r).Val)), .bool ((i_Table_rowWrite p_t p_r).Gone)] := hB41
 have hO42z := hO42.size
 refine SeqR.done (tn (CW.seq (CW.drawsI 10 (vgetI [DetI (.pointer (some ⟨b34, 0 + 0, none⟩)), DetI (.string (bs ((i_Table_rowWrite p_t p_r).Key))), DetI (.pointer (some ⟨b34, 0 + 1, none⟩)), DetI (.string (bs ((i_Table_rowWrite p_t p_r).Val))), DetI (.agg #[.int .i64 (7), .string (bs ((i_Table_rowWrite p_t p_r).Key)), .string (bs ((i_Table_rowWrite p_t p_r).Val)), .int .i64 (0)]), DetI (.agg #[.string (bs (p_t.Name)), .slice A1 p_t.Cols.length c1, .slice A2 p_t.Idxs.length c2]), DetI (.string (bs (p_name))), DetI (.agg #[.slice A5 p_r.Vals.length c5]), fun lo hi v wq => v = .string (bs ((i_Table_idxKey p_t p_name p_r))) ∧ okS (i_Table_idxKey p_t p_name p_r), DetI (.agg #[.int .i64 (2), .string (bs ((i_Table_idxKey p_t p_name p_r))), .string (bs (([] : Str))), .int .i64 (0)])]) Try.follows rfl rfl rfl rfl rfl rfl (vgetI_stable ⟨StableI.det _, StableI.det _, StableI.det _, StableI.det _, StableI.det _, StableI.det _, StableI.det _, StableI.det _, (fun _ _ _ _ _ ⟨hv, ho59⟩ e => ⟨hv, ho59⟩), StableI.det _, trivial⟩) ⟨?_, ?_, ?_, ?_, ?_, ?_, ?_, ?_, ?_, ?_, trivial⟩ ?_)))
 ·exact fun _ _ h => os rfl ((yl_fieldAddr Try.fd125_0 rfl (h.old 7 _ rfl rfl) kI))
 ·exact fun _ _ h => os rfl ((yl_load1 Try.ty9 rfl (h.dt 0 11 rfl rfl rfl) (((Box.ex hB41 h.ex).cell 0).trans rfl) kI))
 ·exact fun _ _ h => os rfl ((yl_fieldAddr Try.fd125_1 rfl (h.old 7 _ rfl rfl) kI))
 ·exact fun _ _ h => os rfl ((yl_load1 Try.ty9 rfl (h.dt 2 13 rfl rfl rfl) (((Box.ex hB41 h.ex).cell 1).trans rfl) kI))
 ·exact fun _ _ h => os rfl ((yl_build (cs := [.int .i64 (7), .string (bs ((i_Table_rowWrite p_t p_r).Key)), .string (bs ((i_Table_rowWrite p_t p_r).Val)), .int .i64 (0)]) rfl (opvs_cons rfl (opvs_cons (h.dt 1 12 rfl rfl rfl) (opvs_cons (h.dt 3 14 rfl rfl rfl) opvs_nil))) (by kernel_rfl) kI))
 ·intro L88 w89 hi90
  have hE91 := hi90.ex
  have hE91z := Ex.size hE91
  exact os rfl ((yl_loadN (cs := [.string (bs (p_t.Name)), .slice A1 p_t.Cols.length c1, .slice A2 p_t.Idxs.length c2]) Try.ty65 rfl (hi90.old 3 _ rfl rfl) ((Box.ex (Box.only (Box.ex (Box.ex q24 hE33) hE39) hO42 (by omega)) hE91).cells (n := 3) rfl) rfl kI))
 ·exact fun _ _ h => os rfl ((yl_move rfl (h.old 1 _ rfl rfl) kI))
 ·intro L99 w100 hi101
  have hE102 := hi101.ex
  have hE102z := Ex.size hE102
  exact os rfl ((yl_loadN (cs := [.slice A5 p_r.Vals.length c5]) Try.ty67 rfl (hi101.old 5 _ rfl rfl) ((Box.ex (Box.only (Box.ex (Box.ex hB22 hE33) hE39) hO42 (by omega)) hE102).cells (n := 1) rfl) rfl kI))
 ·intro L105 w106 hi107
  have hE108 := hi107.ex
  have hE108z := Ex.size hE108
  refine OpR.op' rfl (yl_call Try.en170 rfl (opvs_cons (hi107.dt 5 16 rfl rfl rfl) (opvs_cons (hi107.dt 6 17 rfl rfl rfl) (opvs_cons (hi107.dt 7 18 rfl rfl rfl) opvs_nil))) (Cal.mono (c_i_Table_idxKey p_t p_name p_r (RdS.up (RdS.ex good_Str (RdS.only good_Str (RdS.ex good_Str (RdS.ex good_Str q26 hE33) hE39) hO42 (by simp only [Iv]; omega)) hE108) good_Str) (RdS.up (RdS.ex good_Idx (RdS.only good_Idx (RdS.ex good_Idx (RdS.ex good_Idx q28 hE33) hE39) hO42 (by simp only [Iv]; omega)) hE108) good_Idx) (RdS.up (RdS.ex good_Str (RdS.only good_Str (RdS.ex good_Str (RdS.ex good_Str q30 hE33) hE39) hO42 (by simp only [Iv]; omega)) hE108) good_Str) o3 o4 o6 (by first | omega | assumption | (simp only [IntKind.wrap_i64] at *; omega)) (by first | omega | assumption | (simp only [IntKind.wrap_i64] at *; omega)) (by first | omega | assumption | (simp only [IntKind.wrap_i64] at *; omega)) (by first | omega | assumption | (simp only [IntKind.wrap_i64] at *; omega))) ?_))
  rintro v117 w115 ⟨rfl, ho116, hE118⟩
  exact ⟨⟨rfl, ho116⟩, hE118⟩
 ·intro L119 w120 hi121
  obtain ⟨lo124, hh125, _, hx123, hr126, hr127, hr128, rfl, h129⟩ := hi121.dep 8 19 rfl rfl
  exact os rfl ((yl_build (cs := [.int .i64 (2), .string (bs ((i_Table_idxKey p_t p_name p_r))), .string (bs (([] : Str))), .int .i64 (0)]) rfl (opvs_cons rfl (opvs_cons hx123 opvs_nil)) (by kernel_rfl) kI))
 ·intro fl133 fh134 L130 w131 hp132
  have hE135 := hp132.ex
  have hE135z := Ex.size hE135
  refine sd rfl (yl_buildSlice (cs := [.int .i64 (7), .string (bs ((i_Table_rowWrite p_t p_r).Key)), .string (bs ((i_Table_rowWrite p_t p_r).Val)), .int .i64 (0), .int .i64 (2), .string (bs ((i_Table_idxKey p_t p_name p_r))), .string (bs (([] : Str))), .int .i64 (0)]) Try.un60 Try.ty163 (by decide) rfl (opvs_cons (hp132.nt 4 15 rfl rfl rfl) (opvs_cons (hp132.nt 9 20 rfl rfl rfl) opvs_nil)) (by kernel_rfl) ?_)
  intro b138 w139 hs140 hz141 hB142 hE143
  have hO144 : OwnL w139 b138 (b138 + 1) 163 4 (RF e_Op) (some ⟨b138, 0, none⟩) 2 2 ([(⟨7, (i_Table_rowWrite p_t p_r).Key, (i_Table_rowWrite p_t p_r).Val, 0⟩ : DOp), (⟨2, (i_Table_idxKey p_t p_name p_r), ([] : Str), 0⟩ : DOp)] : List DOp) := OwnL.of_box (S := fun _ => False) hB142 (Nat.le_refl _) (Nat.lt_succ_self _) (EncL.cons (c := [.int .i64 (7), .string (bs ((i_Table_rowWrite p_t p_r).Key)), .string (bs ((i_Table_rowWrite p_t p_r).Val)), .int .i64 (0)]) rfl rfl (EncL.cons (c := [.int .i64 (2), .string (bs ((i_Table_idxKey p_t p_name p_r))), .string (bs (([] : Str))), .int .i64 (0)]) rfl rfl EncL.nil)) (Nat.le_of_ble_eq_true rfl) (fun h => h) (fun _ h => False.elim h)
  refine sd rfl (yl_assign rfl rfl (SeqR.done (tn (CW.sub (Sub.cons (d := 6) rfl (Sub.nil _)) (CW.ret (rr rfl (.cons rfl .nil) ?_))))))
  have hM145 : (i_Table_fillOps p_t p_name p_r) = (([(⟨7, (i_Table_rowWrite p_t p_r).Key, (i_Table_rowWrite p_t p_r).Val, 0⟩ : DOp), (⟨2, (i_Table_idxKey p_t p_name p_r), ([] : Str), 0⟩ : DOp)] : List DOp)) := by simp only [i_Table_fillOps, cond_true, cond_false, loopE_done, loopE_ret]
  have hfx146 := (hO144).1
  rw [hM145]
  exact ⟨(some ⟨b138, 0, none⟩), 2, b138, (b138 + 1), (by first | rfl | (simp only [List.length_replicate, List.length_set]; done) | (simp only [List.length_replicate, List.length_set]; rfl) | rw [hfx146]), (OwnL.fix hO144), (by omega), (Ex.trans (Ex.trans (Below.only (Ex.trans (Ex.trans (Ex.trans (Ex.trans (Ex.refl w) hE17) hE23) hE33) hE39) hO42 (by omega)) hE135) hE143)⟩
set_option maxRecDepth 100000 in
set_option maxHeartbeats 2000000 in
theorem c_i_FillOps {A1 : Option Addr} {c1 : Nat} {A2 : Option Addr} {c2 : Nat} {A5 : Option Addr} {c5 : Nat} {w : World} (p_t : DTable) (p_name : Str) (p_r : DRow) (h1 : RdS w (Iv 0 w.heap.size) (RF e_Str) 1 A1 p_t.Cols.length c1 p_t.Cols) (h2 : RdS w (Iv 0 w.heap.size) (RF e_Idx) 3 A2 p_t.Idxs.length c2 p_t.Idxs) (h5 : RdS w (Iv 0 w.heap.size) (RF e_Str) 1 A5 p_r.Vals.length c5 p_r.Vals) (o3 : ok_Table p_t) (o4 : okS p_name) (o6 : ok_Row p_r) : Cal Try.prog 37 #[.agg #[.string (bs (p_t.Name)), .slice A1 p_t.Cols.length c1, .slice A2 p_t.Idxs.length c2], .string (bs (p_name)), .agg #[.slice A5 p_r.Vals.length c5]] w fun v w' => ∃ A_1 c_1 lo_1 hi_1, v = .tuple #[.slice A_1 (((i_FillOps p_t p_name p_r).1).length) c_1, .bool ((i_FillOps p_t p_name p_r).2)] ∧ OwnL w' lo_1 hi_1 163 4 (RF e_Op) A_1 (((i_FillOps p_t p_name p_r).1).length) c_1 ((i_FillOps p_t p_name p_r).1) ∧ (w.heap.size ≤ lo_1 ∧ lo_1 ≤ hi_1 ∧ hi_1 ≤ w'.heap.size) ∧ Ex w w' := by
 have hol7 : p_t.Name.length ≤ 1073741824 := o3.1
 have hol8 := o3.2.1.1
 have hol9 := o3.2.2.1
 have hol10 : p_name.length ≤ 1073741824 := o4
 have hol11 := o6.1
 refine Cal.of (vs := [.agg #[.string (bs (p_t.Name)), .slice A1 p_t.Cols.length c1, .slice A2 p_t.Idxs.length c2], .string (bs (p_name)), .agg #[.slice A5 p_r.Vals.length c5]]) Try.func37 rfl Try.ntmps37 rfl (CW.seq (CW.region (sd rfl (yl_box (cs := [.string (bs (p_t.Name)), .slice A1 p_t.Cols.length c1, .slice A2 p_t.Idxs.length c2]) rfl rfl rfl ?_))))
 intro b12 w13 hs14 hz15 hB16 hE17
 refine sd rfl (yl_box (cs := [.slice A5 p_r.Vals.length c5]) rfl rfl rfl ?_)
 intro b18 w19 hs20 hz21 hB22 hE23
 refine sd rfl (yl_assign rfl rfl (sd rfl (yl_assign rfl rfl (SeqR.done (tn (CW.seq (CW.seq (CW.region ?_))))))))
 have q24 := Box.ex hB16 hE23
 refine sd rfl (yl_loadN (cs := [.string (bs (p_t.Name)), .slice A1 p_t.Cols.length c1, .slice A2 p_t.Idxs.length c2]) Try.ty65 rfl rfl (q24.cells (n := 3) rfl) rfl (sd rfl (yl_loadN (cs := [.slice A5 p_r.Vals.length c5]) Try.ty67 rfl rfl (hB22.cells (n := 1) rfl) rfl ?_)))
 have q26 := RdS.ex good_Str (RdS.ex good_Str h1 hE17) hE23
 have q28 := RdS.ex good_Idx (RdS.ex good_Idx h2 hE17) hE23
 have q30 := RdS.ex good_Str (RdS.ex good_Str h5 hE17) hE23
 refine sd rfl (yl_call Try.en108 rfl (opvs_cons rfl (opvs_cons rfl opvs_nil)) (Cal.mono (c_i_GoodRow p_t p_r (RdS.up q26 good_Str) (RdS.up q28 good_Idx) (RdS.up q30 good_Str) o3 o6) ?_))
 rintro v32 w31 ⟨rfl, hE33⟩
 have hE33z := Ex.size hE33
 refine sd rfl (yl_not rfl rfl (sd rfl (yl_move rfl rfl (bcase (i_GoodRow p_t p_r) (fun hb34 => ?_) (fun hb34 => ?_)))))
 ·obtain ⟨hb34p0, hb34p1, hb34p2⟩ := f_i_GoodRow hb34
  have q35 := Box.ex q24 hE33
  refine sy rfl rfl (not_t hb34) (yl_loadN (cs := [.string (bs (p_t.Name)), .slice A1 p_t.Cols.length c1, .slice A2 p_t.Idxs.length c2]) Try.ty65 rfl rfl (q35.cells (n := 3) rfl) rfl (sy rfl rfl (not_t hb34) (yl_move rfl rfl ?_)))
  have q36 := RdS.ex good_Str q26 hE33
  have q37 := RdS.ex good_Idx q28 hE33
  refine sy rfl rfl (not_t hb34) (yl_call Try.en109 rfl (opvs_cons rfl (opvs_cons rfl opvs_nil)) (Cal.mono (c_i_hasIdx p_t p_name (RdS.up q36 good_Str) (RdS.up q37 good_Idx) o3 o4) ?_))
  rintro v39 w38 ⟨rfl, hE40⟩
  have hE40z := Ex.size hE40
  refine sy rfl rfl (not_t hb34) (yl_not rfl rfl (sd rfl (yl_pick_f rfl rfl (not_t hb34) rfl (SeqR.done (tn (bcase (i_hasIdx p_t p_name) (fun hb41 => ?_) (fun hb41 => ?_)))))))
  ·obtain ⟨hb41p0, hb41p1, hb41p2⟩ := f_i_hasIdx hb41
   refine CW.cond_f rfl (not_t hb41) (CW.skip (tn (CW.seq (CW.region (sd rfl (yl_loadN (cs := [.string (bs (p_t.Name)), .slice A1 p_t.Cols.length c1, .slice A2 p_t.Idxs.length c2]) Try.ty65 rfl rfl ((Box.ex q35 hE40).cells (n := 3) rfl) rfl (sd rfl (yl_move rfl rfl (sd rfl (yl_loadN (cs := [.slice A5 p_r.Vals.length c5]) Try.ty67 rfl rfl ((Box.ex (Box.ex hB22 hE33) hE40).cells (n := 1) rfl) rfl (sd rfl (yl_call Try.en110 rfl (opvs_cons rfl (opvs_cons rfl (opvs_cons rfl opvs_nil))) (Cal.mono (c_i_Table_fillOps p_t p_name p_r (RdS.up (RdS.ex good_Str q36 hE40) good_Str) (RdS.up (RdS.ex good_Idx q37 hE40) good_Idx) (RdS.up (RdS.ex good_Str (RdS.ex good_Str q30 hE33) hE40) good_Str) o3 o4 o6 (by first | omega | assumption | (simp only [IntKind.wrap_i64] at *; omega)) (by first | omega | assumption | (simp only [IntKind.wrap_i64] at *; omega)) (by first | omega | assumption | (simp only [IntKind.wrap_i64] at *; omega)) (by first | omega | assumption | (simp only [IntKind.wrap_i64] at *; omega)) (by first | omega | assumption | (simp only [IntKind.wrap_i64] at *; omega)) (by first | omega | assumption | (simp only [IntKind.wrap_i64] at *; omega))) ?_)))))))))))))
   rintro v51 w49 ⟨A50, c50, lo50, hi50, rfl, h50, hrn53, hE52⟩
   have hE52z := Ex.size hE52
   refine sd rfl (yl_assign rfl rfl (sd rfl (yl_assign rfl rfl (SeqR.done (tn (CW.ret (rr rfl (.cons rfl (.cons rfl .nil)) ?_)))))))
   have hM54 : (i_FillOps p_t p_name p_r) = (((i_Table_fillOps p_t p_name p_r), true)) := by simp only [i_FillOps, hb34, hb41, cond_true, cond_false, loopE_done, loopE_ret]
   rw [hM54]
   exact ⟨A50, c50, lo50, hi50, rfl, h50, (by omega), (Ex.trans (Ex.trans (Ex.trans (Ex.trans (Ex.trans (Ex.refl w) hE17) hE23) hE33) hE40) hE52)⟩
  ·refine CW.cond_t rfl (not_f hb41) (CW.seq (CW.region (sd rfl (yl_assign rfl rfl (sd rfl (yl_assign rfl rfl (SeqR.done (tn (CW.ret (tr ?_))))))))))
   refine rr rfl (.cons rfl (.cons rfl .nil)) ?_
   have hM60 : (i_FillOps p_t p_name p_r) = ((([] : List DOp), false)) := by simp only [i_FillOps, hb34, hb41, cond_true, cond_false, loopE_done, loopE_ret]
   rw [hM60]
   exact ⟨none, 0, w38.heap.size, w38.heap.size, rfl, (OwnL.nil _ _ _ _ _ _), (by omega), (Ex.trans (Ex.trans (Ex.trans (Ex.trans (Ex.refl w) hE17) hE23) hE33) hE40)⟩
 ·refine sz rfl rfl (not_f hb34) (sz rfl rfl (not_f hb34) (sz rfl rfl (not_f hb34) (sz rfl rfl (not_f hb34) (sd rfl (yl_pick_t rfl rfl (not_f hb34) rfl (SeqR.done (tn (CW.cond_t rfl rfl (CW.seq ?_)))))))))
  refine CW.region (sd rfl (yl_assign rfl rfl (sd rfl (yl_assign rfl rfl (SeqR.done (tn (CW.ret (tr (rr rfl (.cons rfl (.cons rfl .nil)) ?_)))))))))
  have hM65 : (i_FillOps p_t p_name p_r) = ((([] : List DOp), false)) := by simp only [i_FillOps, hb34, cond_true, cond_false, loopE_done, loopE_ret]
  rw [hM65]
  exact ⟨none, 0, w31.heap.size, w31.heap.size, rfl, (OwnL.nil _ _ _ _ _ _), (by omega), (Ex.trans (Ex.trans (Ex.trans (Ex.refl w) hE17) hE23) hE33)⟩
set_option maxRecDepth 100000 in
set_option maxHeartbeats 2000000 in
theorem c_l_eqOp {w : World} (p_a : DOp) (p_b : DOp) : Cal Try.prog 111 #[.agg #[.int .i64 (p_a.Kind), .string (bs (p_a.Key)), .string (bs (p_a.Val)), .int .i64 (p_a.By)], .agg #[.int .i64 (p_b.Kind), .string (bs (p_b.Key)), .string (bs (p_b.Val)), .int .i64 (p_b.By)]] w fun v w' => v = .bool ((l_eqOp p_a p_b)) ∧ Ex w w' := by
 refine Cal.of (vs := [.agg #[.int .i64 (p_a.Kind), .string (bs (p_a.Key)), .string (bs (p_a.Val)), .int .i64 (p_a.By)], .agg #[.int .i64 (p_b.Kind), .string (bs (p_b.Key)), .string (bs (p_b.Val)), .int .i64 (p_b.By)]]) Try.func111 rfl Try.ntmps111 rfl (CW.seq (CW.region (sd rfl (yl_box (cs := [.int .i64 (p_a.Kind), .string (bs (p_a.Key)), .string (bs (p_a.Val)), .int .i64 (p_a.By)]) rfl rfl rfl ?_))))
 intro b1 w2 hs3 hz4 hB5 hE6
 refine sd rfl (yl_box (cs := [.int .i64 (p_b.Kind), .string (bs (p_b.Key)), .string (bs (p_b.Val)), .int .i64 (p_b.By)]) rfl rfl rfl ?_)
 intro b7 w8 hs9 hz10 hB11 hE12
 refine sd rfl (yl_assign rfl rfl (SeqR.done (tn (CW.seq (CW.seq (CW.region (sd rfl (yl_fieldAddr Try.fd163_0 rfl rfl ?_))))))))
 have q13 := Box.ex hB5 hE12
 refine sd rfl (yl_load1 Try.ty3 rfl rfl ((q13.cell 0).trans rfl) (sd rfl (yl_fieldAddr Try.fd163_0 rfl rfl (sd rfl (yl_load1 Try.ty3 rfl rfl ((hB11.cell 0).trans rfl) (sd rfl (yl_neq rfl rfl rfl (SeqR.done (tn (bcase (decide (p_a.Kind = p_b.Kind)) (fun hb14 => ?_) (fun hb14 => ?_)))))))))))
 ·have hb14p := dec_t hb14
  refine CW.cond_f rfl (not_t hb14) (CW.skip (tn (CW.seq (CW.seq (CW.region (sd rfl (yl_fieldAddr Try.fd163_1 rfl rfl (sd rfl (yl_load1 Try.ty9 rfl rfl ((q13.cell 1).trans rfl) (sd rfl (yl_fieldAddr Try.fd163_1 rfl rfl ?_)))))))))))
  refine sd rfl (yl_load1 Try.ty9 rfl rfl ((hB11.cell 1).trans rfl) (sd rfl (yl_sneq (a := p_a.Key) (b := p_b.Key) rfl rfl rfl (SeqR.done (tn (bcase (p_a.Key == p_b.Key) (fun hb15 => ?_) (fun hb15 => ?_)))))))
  ·refine CW.cond_f rfl (not_t hb15) (CW.skip (tn (CW.seq (CW.seq (CW.region (sd rfl (yl_fieldAddr Try.fd163_2 rfl rfl (sd rfl (yl_load1 Try.ty9 rfl rfl ((q13.cell 2).trans rfl) (sd rfl (yl_fieldAddr Try.fd163_2 rfl rfl ?_)))))))))))
   refine sd rfl (yl_load1 Try.ty9 rfl rfl ((hB11.cell 2).trans rfl) (sd rfl (yl_sneq (a := p_a.Val) (b := p_b.Val) rfl rfl rfl (SeqR.done (tn (bcase (p_a.Val == p_b.Val) (fun hb16 => ?_) (fun hb16 => ?_)))))))
   ·refine CW.cond_f rfl (not_t hb16) (CW.skip (tn (CW.seq (CW.seq (CW.region (sd rfl (yl_fieldAddr Try.fd163_3 rfl rfl (sd rfl (yl_load1 Try.ty3 rfl rfl ((q13.cell 3).trans rfl) (sd rfl (yl_fieldAddr Try.fd163_3 rfl rfl ?_)))))))))))
    refine sd rfl (yl_load1 Try.ty3 rfl rfl ((hB11.cell 3).trans rfl) (sd rfl (yl_neq rfl rfl rfl (SeqR.done (tn (bcase (decide (p_a.By = p_b.By)) (fun hb17 => ?_) (fun hb17 => ?_)))))))
    ·have hb17p := dec_t hb17
     refine CW.cond_f rfl (not_t hb17) (CW.skip (tn (CW.seq (CW.region (sd rfl (yl_assign rfl rfl (SeqR.done (tn (CW.ret ?_)))))))))
     refine rr rfl (.cons rfl .nil) ?_
     have hM18 : (l_eqOp p_a p_b) = (true) := by simp only [l_eqOp, hb14, hb15, hb16, hb17, cond_true, cond_false, loopE_done, loopE_ret]
     rw [hM18]
     exact ⟨rfl, (Ex.trans (Ex.trans (Ex.refl w) hE6) hE12)⟩
    ·have hb17p := dec_f hb17
     refine CW.cond_t rfl (not_f hb17) (CW.seq (CW.region (sd rfl (yl_assign rfl rfl (SeqR.done (tn (CW.ret (tr (rr rfl (.cons rfl .nil) ?_)))))))))
     have hM21 : (l_eqOp p_a p_b) = (false) := by simp only [l_eqOp, hb14, hb15, hb16, hb17, cond_true, cond_false, loopE_done, loopE_ret]
     rw [hM21]
     exact ⟨rfl, (Ex.trans (Ex.trans (Ex.refl w) hE6) hE12)⟩
   ·refine CW.cond_t rfl (not_f hb16) (CW.seq (CW.region (sd rfl (yl_assign rfl rfl (SeqR.done (tn (CW.ret (tr (rr rfl (.cons rfl .nil) ?_)))))))))
    have hM24 : (l_eqOp p_a p_b) = (false) := by simp only [l_eqOp, hb14, hb15, hb16, cond_true, cond_false, loopE_done, loopE_ret]
    rw [hM24]
    exact ⟨rfl, (Ex.trans (Ex.trans (Ex.refl w) hE6) hE12)⟩
  ·refine CW.cond_t rfl (not_f hb15) (CW.seq (CW.region (sd rfl (yl_assign rfl rfl (SeqR.done (tn (CW.ret (tr (rr rfl (.cons rfl .nil) ?_)))))))))
   have hM27 : (l_eqOp p_a p_b) = (false) := by simp only [l_eqOp, hb14, hb15, cond_true, cond_false, loopE_done, loopE_ret]
   rw [hM27]
   exact ⟨rfl, (Ex.trans (Ex.trans (Ex.refl w) hE6) hE12)⟩
 ·have hb14p := dec_f hb14
  refine CW.cond_t rfl (not_f hb14) (CW.seq (CW.region (sd rfl (yl_assign rfl rfl (SeqR.done (tn (CW.ret (tr (rr rfl (.cons rfl .nil) ?_)))))))))
  have hM30 : (l_eqOp p_a p_b) = (false) := by simp only [l_eqOp, hb14, cond_true, cond_false, loopE_done, loopE_ret]
  rw [hM30]
  exact ⟨rfl, (Ex.trans (Ex.trans (Ex.refl w) hE6) hE12)⟩
set_option maxRecDepth 100000 in
set_option maxHeartbeats 2000000 in
theorem c_l_eqOpS {A1 : Option Addr} {c1 : Nat} {A2 : Option Addr} {c2 : Nat} {w : World} (p_a : List DOp) (p_b : List DOp) (h1 : RdS w (Iv 0 w.heap.size) (RF e_Op) 4 A1 p_a.length c1 p_a) (h2 : RdS w (Iv 0 w.heap.size) (RF e_Op) 4 A2 p_b.length c2 p_b) : Cal Try.prog 38 #[.slice A1 p_a.length c1, .slice A2 p_b.length c2] w fun v w' => v = .bool ((l_eqOpS p_a p_b)) ∧ Ex w w' := by
 refine Cal.of (vs := [.slice A1 p_a.length c1, .slice A2 p_b.length c2]) Try.func38 rfl Try.ntmps38 rfl (CW.seq (CW.region (sd rfl (yl_assign rfl rfl (SeqR.done (tn (CW.seq (CW.seq (CW.region ?_)))))))))
 refine sd rfl (yl_move rfl rfl (sd rfl (yl_len Try.un60 rfl rfl (sd rfl (yl_move rfl rfl (sd rfl (yl_len Try.un60 rfl rfl (sd rfl (yl_neq rfl rfl rfl (SeqR.done (tn (bcase (decide ((p_a.length : Int) = (p_b.length : Int))) (fun hb3 => ?_) (fun hb3 => ?_)))))))))))))
 ·have hb3p := dec_t hb3
  refine CW.cond_f rfl (not_t hb3) (CW.skip (tn (CW.seq (CW.seq (CW.region (sd rfl (yl_assign rfl rfl (SeqR.done (tn ?_)))))))))
  refine CW.block (CW.loop (fun m5 L6 w7 => ∃ (k4 : Nat), m5 = p_a.length - k4 ∧ k4 ≤ p_a.length ∧ w.heap.size ≤ w7.heap.size ∧ lkp L6 0 = some (.slice A1 p_a.length c1) ∧ lkp L6 1 = some (.slice A2 p_b.length c2) ∧ lkp L6 5 = some (.int .i64 ((k4 : Int))) ∧ RdS w7 (Iv 0 w.heap.size) (RF e_Op) 4 A1 p_a.length c1 p_a ∧ RdS w7 (Iv 0 w.heap.size) (RF e_Op) 4 A2 p_b.length c2 p_b ∧ Ex w w7 ∧ loopM (B_l_eqOpS_0 p_a p_b) (p_a.length - k4) k4 () = loopM (B_l_eqOpS_0 p_a p_b) (p_a.length - 0) 0 ()) (p_a.length - 0) ?_ ?_)
  ·exact ⟨0, rfl, (by omega), Nat.le_refl _, rfl, rfl, rfl, h1, h2, (Ex.refl w), rfl⟩
  ·rintro m8 L9 w10 ⟨k4, rfl, hk11, hsz13, hl14, hl15, hl16, hf17, hf18, hf19, hI12⟩
   refine CW.sub (Sub.cons hl14 (Sub.cons hl15 (Sub.cons hl16 (Sub.nil _)))) ?_
   have hf19z := Ex.size hf19
   have hbg20 := RdS.big hf17
   rcases Nat.lt_or_ge k4 p_a.length with hlt21 | hlt21
   ·refine CW.seq (CW.seq (CW.region (sd rfl (yl_move rfl rfl (sd rfl (yl_move rfl rfl (sd rfl (yl_len Try.un60 rfl rfl (sd rfl (yl_lss rfl rfl rfl (SeqR.done (tn ?_))))))))))))
    refine CW.cond_t rfl (lt_t hlt21) (CW.skip (tn (CW.seq (CW.block (CW.seq ?_)))))
    obtain ⟨eb22, eo22, ec22, eA22, eS22, ebl22, el22, eR22, eC22⟩ := RdS.atD hf17 d_Op (i := k4) (by first | omega | assumption)
    obtain rfl := eR22
    have eC22 : Cells w10 eb22 (eo22 + k4 * 4) [.int .i64 ((p_a.getD k4 d_Op).Kind), .string (bs ((p_a.getD k4 d_Op).Key)), .string (bs ((p_a.getD k4 d_Op).Val)), .int .i64 ((p_a.getD k4 d_Op).By)] := eC22
    obtain ⟨eb23, eo23, ec23, eA23, eS23, ebl23, el23, eR23, eC23⟩ := RdS.atD hf18 d_Op (i := k4) (by first | omega | assumption)
    obtain rfl := eR23
    have eC23 : Cells w10 eb23 (eo23 + k4 * 4) [.int .i64 ((p_b.getD k4 d_Op).Kind), .string (bs ((p_b.getD k4 d_Op).Key)), .string (bs ((p_b.getD k4 d_Op).Val)), .int .i64 ((p_b.getD k4 d_Op).By)] := eC23
    refine CW.drawsI 10 (vgetI [DetI (.slice A1 p_a.length c1), DetI (.int .i64 ((k4 : Int))), DetI (.pointer (some ⟨eb22, eo22 + k4 * 4, none⟩)), DetI (.agg #[.int .i64 ((p_a.getD k4 d_Op).Kind), .string (bs ((p_a.getD k4 d_Op).Key)), .string (bs ((p_a.getD k4 d_Op).Val)), .int .i64 ((p_a.getD k4 d_Op).By)]), DetI (.slice A2 p_b.length c2), DetI (.int .i64 ((k4 : Int))), DetI (.pointer (some ⟨eb23, eo23 + k4 * 4, none⟩)), DetI (.agg #[.int .i64 ((p_b.getD k4 d_Op).Kind), .string (bs ((p_b.getD k4 d_Op).Key)), .string (bs ((p_b.getD k4 d_Op).Val)), .int .i64 ((p_b.getD k4 d_Op).By)]), DetI (.bool ((l_eqOp (p_a.getD k4 d_Op) (p_b.getD k4 d_Op)))), DetI (.bool (!(l_eqOp (p_a.getD k4 d_Op) (p_b.getD k4 d_Op))))]) Try.follows rfl rfl rfl rfl rfl rfl (vgetI_stable ⟨StableI.det _, StableI.det _, StableI.det _, StableI.det _, StableI.det _, StableI.det _, StableI.det _, StableI.det _, StableI.det _, StableI.det _, trivial⟩) ⟨?_, ?_, ?_, ?_, ?_, ?_, ?_, ?_, ?_, ?_, trivial⟩ ?_
    ·exact fun _ _ h => os rfl ((yl_move rfl (h.old 0 _ rfl rfl) kI))
    ·exact fun _ _ h => os rfl ((yl_move rfl (h.old 5 _ rfl rfl) kI))
    ·intro L35 w36 hi37
     have hE38 := hi37.ex
     have hE38z := Ex.size hE38
     exact os rfl ((yl_indexAddrN Try.un60 Try.ty163 rfl (hi37.dt 0 17 rfl rfl rfl) (hi37.dt 1 18 rfl rfl rfl) eA22 (by first | omega | assumption | (simp only [IntKind.wrap_i64] at *; omega)) kI))
    ·exact fun _ _ h => os rfl ((yl_loadN (cs := [.int .i64 ((p_a.getD k4 d_Op).Kind), .string (bs ((p_a.getD k4 d_Op).Key)), .string (bs ((p_a.getD k4 d_Op).Val)), .int .i64 ((p_a.getD k4 d_Op).By)]) Try.ty163 rfl (h.dt 2 19 rfl rfl rfl) (Cells.ex eC22 h.ex) rfl kI))
    ·exact fun _ _ h => os rfl ((yl_move rfl (h.old 1 _ rfl rfl) kI))
    ·exact fun _ _ h => os rfl ((yl_move rfl (h.old 5 _ rfl rfl) kI))
    ·intro L57 w58 hi59
     have hE60 := hi59.ex
     have hE60z := Ex.size hE60
     exact os rfl ((yl_indexAddrN Try.un60 Try.ty163 rfl (hi59.dt 4 21 rfl rfl rfl) (hi59.dt 5 22 rfl rfl rfl) eA23 (by first | omega | assumption | (simp only [IntKind.wrap_i64] at *; omega)) kI))
    ·exact fun _ _ h => os rfl ((yl_loadN (cs := [.int .i64 ((p_b.getD k4 d_Op).Kind), .string (bs ((p_b.getD k4 d_Op).Key)), .string (bs ((p_b.getD k4 d_Op).Val)), .int .i64 ((p_b.getD k4 d_Op).By)]) Try.ty163 rfl (h.dt 6 23 rfl rfl rfl) (Cells.ex eC23 h.ex) rfl kI))
    ·intro L69 w70 hi71
     refine OpR.op' rfl (yl_call Try.en111 rfl (opvs_cons (hi71.dt 3 20 rfl rfl rfl) (opvs_cons (hi71.dt 7 24 rfl rfl rfl) opvs_nil)) (Cal.mono (c_l_eqOp (p_a.getD k4 d_Op) (p_b.getD k4 d_Op)) ?_))
     rintro v76 w75 ⟨rfl, hE77⟩
     exact ⟨rfl, hE77⟩
    ·exact fun _ _ h => os rfl ((yl_not rfl (h.dt 8 25 rfl rfl rfl) kI))
    ·intro fl86 fh87 L83 w84 hp85
     have hE88 := hp85.ex
     have hE88z := Ex.size hE88
     refine SeqR.done (tn (CW.sub (Sub.cons (d := 0) (hp85.old 0 _ rfl rfl) (Sub.cons (d := 1) (hp85.old 1 _ rfl rfl) (Sub.cons (d := 5) (hp85.old 5 _ rfl rfl) (Sub.cons (d := 26) (hp85.nt 9 26 rfl rfl rfl) (Sub.nil _))))) (bcase (l_eqOp (p_a.getD k4 d_Op) (p_b.getD k4 d_Op)) (fun hb93 => ?_) (fun hb93 => ?_))))
     ·refine CW.cond_f rfl (not_t hb93) (CW.skip (bn (tn (CW.region (sd rfl (yl_move rfl rfl (sd rfl (yl_inc rfl rfl rfl (by omega) (sd rfl (yl_assign rfl rfl (SeqR.done ?_)))))))))))
      refine tn ?_
      have hB94 : B_l_eqOpS_0 p_a p_b k4 () = .cont () := by simp only [B_l_eqOpS_0, hb3, hb93, cond_true, cond_false, loopE_done, loopE_ret]
      exact ⟨p_a.length - (k4 + 1), by omega, k4 + 1, rfl, hlt21, (by omega), rfl, rfl, rfl, (RdS.ex good_Op hf17 hE88), (RdS.ex good_Op hf18 hE88), (Ex.trans hf19 hE88), (loopM.cont hlt21 hB94).symm.trans hI12⟩
     ·refine CW.cond_t rfl (not_f hb93) (CW.seq (CW.region (sd rfl (yl_assign rfl rfl (SeqR.done (tn (CW.ret (br (tr ?_)))))))))
      refine tr ?_
      have hB99 : B_l_eqOpS_0 p_a p_b k4 () = .ret false := by simp only [B_l_eqOpS_0, hb3, hb93, cond_true, cond_false, loopE_done, loopE_ret]
      have hL98 : loopM (B_l_eqOpS_0 p_a p_b) (p_a.length - 0) 0 () = .ret false := hI12.symm.trans (loopM.ret hlt21 hB99)
      refine br (tr (rr rfl (.cons rfl .nil) ?_))
      have hM100 : (l_eqOpS p_a p_b) = (false) := by simp only [l_eqOpS, hb3, hb93, hL98, cond_true, cond_false, loopE_done, loopE_ret]
      rw [hM100]
      exact ⟨rfl, (Ex.trans hf19 hE88)⟩
   ·refine CW.seq (CW.seq (CW.region (sd rfl (yl_move rfl rfl (sd rfl (yl_move rfl rfl (sd rfl (yl_len Try.un60 rfl rfl (sd rfl (yl_lss rfl rfl rfl (SeqR.done (tn ?_))))))))))))
    refine CW.cond_f rfl (lt_f hlt21) (CW.exit (tx (tx ?_)))
    have hL102 : loopM (B_l_eqOpS_0 p_a p_b) (p_a.length - 0) 0 () = .done () := hI12.symm.trans (loopM.stop hlt21)
    refine bx (tn (CW.seq (CW.region (sd rfl (yl_assign rfl rfl (SeqR.done (tn (CW.ret (rr rfl (.cons rfl .nil) ?_)))))))))
    have hM103 : (l_eqOpS p_a p_b) = (true) := by simp only [l_eqOpS, hb3, hL102, cond_true, cond_false, loopE_done, loopE_ret]
    rw [hM103]
    exact ⟨rfl, hf19⟩
 ·have hb3p := dec_f hb3
  refine CW.cond_t rfl (not_f hb3) (CW.seq (CW.region (sd rfl (yl_assign rfl rfl (SeqR.done (tn (CW.ret (tr (rr rfl (.cons rfl .nil) ?_)))))))))
  have hM104 : (l_eqOpS p_a p_b) = (false) := by simp only [l_eqOpS, hb3, cond_true, cond_false, loopE_done, loopE_ret]
  rw [hM104]
  exact ⟨rfl, (Ex.refl w)⟩
set_option maxRecDepth 100000 in
set_option maxHeartbeats 2000000 in
theorem c_l_eqStringS {A1 : Option Addr} {c1 : Nat} {A2 : Option Addr} {c2 : Nat} {w : World} (p_a : List Str) (p_b : List Str) (h1 : RdS w (Iv 0 w.heap.size) (RF e_Str) 1 A1 p_a.length c1 p_a) (h2 : RdS w (Iv 0 w.heap.size) (RF e_Str) 1 A2 p_b.length c2 p_b) : Cal Try.prog 51 #[.slice A1 p_a.length c1, .slice A2 p_b.length c2] w fun v w' => v = .bool ((l_eqStringS p_a p_b)) ∧ Ex w w' := by
 refine Cal.of (vs := [.slice A1 p_a.length c1, .slice A2 p_b.length c2]) Try.func51 rfl Try.ntmps51 rfl (CW.seq (CW.region (sd rfl (yl_assign rfl rfl (SeqR.done (tn (CW.seq (CW.seq (CW.region ?_)))))))))
 refine sd rfl (yl_move rfl rfl (sd rfl (yl_len Try.un52 rfl rfl (sd rfl (yl_move rfl rfl (sd rfl (yl_len Try.un52 rfl rfl (sd rfl (yl_neq rfl rfl rfl (SeqR.done (tn (bcase (decide ((p_a.length : Int) = (p_b.length : Int))) (fun hb3 => ?_) (fun hb3 => ?_)))))))))))))
 ·have hb3p := dec_t hb3
  refine CW.cond_f rfl (not_t hb3) (CW.skip (tn (CW.seq (CW.seq (CW.region (sd rfl (yl_assign rfl rfl (SeqR.done (tn ?_)))))))))
  refine CW.block (CW.loop (fun m5 L6 w7 => ∃ (k4 : Nat), m5 = p_a.length - k4 ∧ k4 ≤ p_a.length ∧ w.heap.size ≤ w7.heap.size ∧ lkp L6 0 = some (.slice A1 p_a.length c1) ∧ lkp L6 1 = some (.slice A2 p_b.length c2) ∧ lkp L6 5 = some (.int .i64 ((k4 : Int))) ∧ RdS w7 (Iv 0 w.heap.size) (RF e_Str) 1 A1 p_a.length c1 p_a ∧ RdS w7 (Iv 0 w.heap.size) (RF e_Str) 1 A2 p_b.length c2 p_b ∧ Ex w w7 ∧ loopM (B_l_eqStringS_0 p_a p_b) (p_a.length - k4) k4 () = loopM (B_l_eqStringS_0 p_a p_b) (p_a.length - 0) 0 ()) (p_a.length - 0) ?_ ?_)
  ·exact ⟨0, rfl, (by omega), Nat.le_refl _, rfl, rfl, rfl, h1, h2, (Ex.refl w), rfl⟩
  ·rintro m8 L9 w10 ⟨k4, rfl, hk11, hsz13, hl14, hl15, hl16, hf17, hf18, hf19, hI12⟩
   refine CW.sub (Sub.cons hl14 (Sub.cons hl15 (Sub.cons hl16 (Sub.nil _)))) ?_
   have hf19z := Ex.size hf19
   have hbg20 := RdS.big hf17
   rcases Nat.lt_or_ge k4 p_a.length with hlt21 | hlt21
   ·refine CW.seq (CW.seq (CW.region (sd rfl (yl_move rfl rfl (sd rfl (yl_move rfl rfl (sd rfl (yl_len Try.un52 rfl rfl (sd rfl (yl_lss rfl rfl rfl (SeqR.done (tn ?_))))))))))))
    refine CW.cond_t rfl (lt_t hlt21) (CW.skip (tn (CW.seq (CW.block (CW.seq ?_)))))
    obtain ⟨eb22, eo22, ec22, eA22, eS22, ebl22, el22, eR22, eC22⟩ := RdS.atD hf17 d_Str (i := k4) (by first | omega | assumption)
    obtain rfl := eR22
    have eC22 : Cells w10 eb22 (eo22 + k4 * 1) [.string (bs ((p_a.getD k4 d_Str)))] := eC22
    obtain ⟨eb23, eo23, ec23, eA23, eS23, ebl23, el23, eR23, eC23⟩ := RdS.atD hf18 d_Str (i := k4) (by first | omega | assumption)
    obtain rfl := eR23
    have eC23 : Cells w10 eb23 (eo23 + k4 * 1) [.string (bs ((p_b.getD k4 d_Str)))] := eC23
    refine CW.drawsI 9 (vgetI [DetI (.slice A1 p_a.length c1), DetI (.int .i64 ((k4 : Int))), DetI (.pointer (some ⟨eb22, eo22 + k4 * 1, none⟩)), DetI (.string (bs ((p_a.getD k4 d_Str)))), DetI (.slice A2 p_b.length c2), DetI (.int .i64 ((k4 : Int))), DetI (.pointer (some ⟨eb23, eo23 + k4 * 1, none⟩)), DetI (.string (bs ((p_b.getD k4 d_Str)))), DetI (.bool (!((p_a.getD k4 d_Str) == (p_b.getD k4 d_Str))))]) Try.follows rfl rfl rfl rfl rfl rfl (vgetI_stable ⟨StableI.det _, StableI.det _, StableI.det _, StableI.det _, StableI.det _, StableI.det _, StableI.det _, StableI.det _, StableI.det _, trivial⟩) ⟨?_, ?_, ?_, ?_, ?_, ?_, ?_, ?_, ?_, trivial⟩ ?_
    ·exact fun _ _ h => os rfl ((yl_move rfl (h.old 0 _ rfl rfl) kI))
    ·exact fun _ _ h => os rfl ((yl_move rfl (h.old 5 _ rfl rfl) kI))
    ·intro L34 w35 hi36
     have hE37 := hi36.ex
     have hE37z := Ex.size hE37
     exact os rfl ((yl_indexAddrN Try.un52 Try.ty9 rfl (hi36.dt 0 17 rfl rfl rfl) (hi36.dt 1 18 rfl rfl rfl) eA22 (by first | omega | assumption | (simp only [IntKind.wrap_i64] at *; omega)) kI))
    ·exact fun _ _ h => os rfl ((yl_load1 Try.ty9 rfl (h.dt 2 19 rfl rfl rfl) ((Cells.ex eC22 h.ex) 0 _ rfl) kI))
    ·exact fun _ _ h => os rfl ((yl_move rfl (h.old 1 _ rfl rfl) kI))
    ·exact fun _ _ h => os rfl ((yl_move rfl (h.old 5 _ rfl rfl) kI))
    ·intro L56 w57 hi58
     have hE59 := hi58.ex
     have hE59z := Ex.size hE59
     exact os rfl ((yl_indexAddrN Try.un52 Try.ty9 rfl (hi58.dt 4 21 rfl rfl rfl) (hi58.dt 5 22 rfl rfl rfl) eA23 (by first | omega | assumption | (simp only [IntKind.wrap_i64] at *; omega)) kI))
    ·exact fun _ _ h => os rfl ((yl_load1 Try.ty9 rfl (h.dt 6 23 rfl rfl rfl) ((Cells.ex eC23 h.ex) 0 _ rfl) kI))
    ·exact fun _ _ h => os rfl ((yl_sneq (a := (p_a.getD k4 d_Str)) (b := (p_b.getD k4 d_Str)) rfl (h.dt 3 20 rfl rfl rfl) (h.dt 7 24 rfl rfl rfl) kI))
    ·intro fl77 fh78 L74 w75 hp76
     have hE79 := hp76.ex
     have hE79z := Ex.size hE79
     refine SeqR.done (tn (CW.sub (Sub.cons (d := 0) (hp76.old 0 _ rfl rfl) (Sub.cons (d := 1) (hp76.old 1 _ rfl rfl) (Sub.cons (d := 5) (hp76.old 5 _ rfl rfl) (Sub.cons (d := 25) (hp76.nt 8 25 rfl rfl rfl) (Sub.nil _))))) (bcase ((p_a.getD k4 d_Str) == (p_b.getD k4 d_Str)) (fun hb84 => ?_) (fun hb84 => ?_))))
     ·refine CW.cond_f rfl (not_t hb84) (CW.skip (bn (tn (CW.region (sd rfl (yl_move rfl rfl (sd rfl (yl_inc rfl rfl rfl (by omega) (sd rfl (yl_assign rfl rfl (SeqR.done ?_)))))))))))
      refine tn ?_
      have hB85 : B_l_eqStringS_0 p_a p_b k4 () = .cont () := by simp only [B_l_eqStringS_0, hb3, hb84, cond_true, cond_false, loopE_done, loopE_ret]
      exact ⟨p_a.length - (k4 + 1), by omega, k4 + 1, rfl, hlt21, (by omega), rfl, rfl, rfl, (RdS.ex good_Str hf17 hE79), (RdS.ex good_Str hf18 hE79), (Ex.trans hf19 hE79), (loopM.cont hlt21 hB85).symm.trans hI12⟩
     ·refine CW.cond_t rfl (not_f hb84) (CW.seq (CW.region (sd rfl (yl_assign rfl rfl (SeqR.done (tn (CW.ret (br (tr ?_)))))))))
      refine tr ?_
      have hB90 : B_l_eqStringS_0 p_a p_b k4 () = .ret false := by simp only [B_l_eqStringS_0, hb3, hb84, cond_true, cond_false, loopE_done, loopE_ret]
      have hL89 : loopM (B_l_eqStringS_0 p_a p_b) (p_a.length - 0) 0 () = .ret false := hI12.symm.trans (loopM.ret hlt21 hB90)
      refine br (tr (rr rfl (.cons rfl .nil) ?_))
      have hM91 : (l_eqStringS p_a p_b) = (false) := by simp only [l_eqStringS, hb3, hb84, hL89, cond_true, cond_false, loopE_done, loopE_ret]
      rw [hM91]
      exact ⟨rfl, (Ex.trans hf19 hE79)⟩
   ·refine CW.seq (CW.seq (CW.region (sd rfl (yl_move rfl rfl (sd rfl (yl_move rfl rfl (sd rfl (yl_len Try.un52 rfl rfl (sd rfl (yl_lss rfl rfl rfl (SeqR.done (tn ?_))))))))))))
    refine CW.cond_f rfl (lt_f hlt21) (CW.exit (tx (tx ?_)))
    have hL93 : loopM (B_l_eqStringS_0 p_a p_b) (p_a.length - 0) 0 () = .done () := hI12.symm.trans (loopM.stop hlt21)
    refine bx (tn (CW.seq (CW.region (sd rfl (yl_assign rfl rfl (SeqR.done (tn (CW.ret (rr rfl (.cons rfl .nil) ?_)))))))))
    have hM94 : (l_eqStringS p_a p_b) = (true) := by simp only [l_eqStringS, hb3, hL93, cond_true, cond_false, loopE_done, loopE_ret]
    rw [hM94]
    exact ⟨rfl, hf19⟩
 ·have hb3p := dec_f hb3
  refine CW.cond_t rfl (not_f hb3) (CW.seq (CW.region (sd rfl (yl_assign rfl rfl (SeqR.done (tn (CW.ret (tr (rr rfl (.cons rfl .nil) ?_)))))))))
  have hM95 : (l_eqStringS p_a p_b) = (false) := by simp only [l_eqStringS, hb3, cond_true, cond_false, loopE_done, loopE_ret]
  rw [hM95]
  exact ⟨rfl, (Ex.refl w)⟩
set_option maxRecDepth 100000 in
set_option maxHeartbeats 2000000 in
theorem c_l_eqIdx {w : World} (p_a : DIdx) (p_b : DIdx) : Cal Try.prog 171 #[.agg #[.string (bs (p_a.Name)), .int .i64 (p_a.Col), .int .i64 (p_a.Stage)], .agg #[.string (bs (p_b.Name)), .int .i64 (p_b.Col), .int .i64 (p_b.Stage)]] w fun v w' => v = .bool ((l_eqIdx p_a p_b)) ∧ Ex w w' := by
 refine Cal.of (vs := [.agg #[.string (bs (p_a.Name)), .int .i64 (p_a.Col), .int .i64 (p_a.Stage)], .agg #[.string (bs (p_b.Name)), .int .i64 (p_b.Col), .int .i64 (p_b.Stage)]]) Try.func171 rfl Try.ntmps171 rfl (CW.seq (CW.region (sd rfl (yl_box (cs := [.string (bs (p_a.Name)), .int .i64 (p_a.Col), .int .i64 (p_a.Stage)]) rfl rfl rfl ?_))))
 intro b1 w2 hs3 hz4 hB5 hE6
 refine sd rfl (yl_box (cs := [.string (bs (p_b.Name)), .int .i64 (p_b.Col), .int .i64 (p_b.Stage)]) rfl rfl rfl ?_)
 intro b7 w8 hs9 hz10 hB11 hE12
 refine sd rfl (yl_assign rfl rfl (SeqR.done (tn (CW.seq (CW.seq (CW.region (sd rfl (yl_fieldAddr Try.fd152_0 rfl rfl ?_))))))))
 have q13 := Box.ex hB5 hE12
 refine sd rfl (yl_load1 Try.ty9 rfl rfl ((q13.cell 0).trans rfl) (sd rfl (yl_fieldAddr Try.fd152_0 rfl rfl (sd rfl (yl_load1 Try.ty9 rfl rfl ((hB11.cell 0).trans rfl) (sd rfl (yl_sneq (a := p_a.Name) (b := p_b.Name) rfl rfl rfl (SeqR.done (tn (bcase (p_a.Name == p_b.Name) (fun hb14 => ?_) (fun hb14 => ?_)))))))))))
 ·refine CW.cond_f rfl (not_t hb14) (CW.skip (tn (CW.seq (CW.seq (CW.region (sd rfl (yl_fieldAddr Try.fd152_1 rfl rfl (sd rfl (yl_load1 Try.ty3 rfl rfl ((q13.cell 1).trans rfl) (sd rfl (yl_fieldAddr Try.fd152_1 rfl rfl ?_)))))))))))
  refine sd rfl (yl_load1 Try.ty3 rfl rfl ((hB11.cell 1).trans rfl) (sd rfl (yl_neq rfl rfl rfl (SeqR.done (tn (bcase (decide (p_a.Col = p_b.Col)) (fun hb15 => ?_) (fun hb15 => ?_)))))))
  ·have hb15p := dec_t hb15
   refine CW.cond_f rfl (not_t hb15) (CW.skip (tn (CW.seq (CW.seq (CW.region (sd rfl (yl_fieldAddr Try.fd152_2 rfl rfl (sd rfl (yl_load1 Try.ty3 rfl rfl ((q13.cell 2).trans rfl) (sd rfl (yl_fieldAddr Try.fd152_2 rfl rfl ?_)))))))))))
   refine sd rfl (yl_load1 Try.ty3 rfl rfl ((hB11.cell 2).trans rfl) (sd rfl (yl_neq rfl rfl rfl (SeqR.done (tn (bcase (decide (p_a.Stage = p_b.Stage)) (fun hb16 => ?_) (fun hb16 => ?_)))))))
   ·have hb16p := dec_t hb16
    refine CW.cond_f rfl (not_t hb16) (CW.skip (tn (CW.seq (CW.region (sd rfl (yl_assign rfl rfl (SeqR.done (tn (CW.ret ?_)))))))))
    refine rr rfl (.cons rfl .nil) ?_
    have hM17 : (l_eqIdx p_a p_b) = (true) := by simp only [l_eqIdx, hb14, hb15, hb16, cond_true, cond_false, loopE_done, loopE_ret]
    rw [hM17]
    exact ⟨rfl, (Ex.trans (Ex.trans (Ex.refl w) hE6) hE12)⟩
   ·have hb16p := dec_f hb16
    refine CW.cond_t rfl (not_f hb16) (CW.seq (CW.region (sd rfl (yl_assign rfl rfl (SeqR.done (tn (CW.ret (tr (rr rfl (.cons rfl .nil) ?_)))))))))
    have hM20 : (l_eqIdx p_a p_b) = (false) := by simp only [l_eqIdx, hb14, hb15, hb16, cond_true, cond_false, loopE_done, loopE_ret]
    rw [hM20]
    exact ⟨rfl, (Ex.trans (Ex.trans (Ex.refl w) hE6) hE12)⟩
  ·have hb15p := dec_f hb15
   refine CW.cond_t rfl (not_f hb15) (CW.seq (CW.region (sd rfl (yl_assign rfl rfl (SeqR.done (tn (CW.ret (tr (rr rfl (.cons rfl .nil) ?_)))))))))
   have hM23 : (l_eqIdx p_a p_b) = (false) := by simp only [l_eqIdx, hb14, hb15, cond_true, cond_false, loopE_done, loopE_ret]
   rw [hM23]
   exact ⟨rfl, (Ex.trans (Ex.trans (Ex.refl w) hE6) hE12)⟩
 ·refine CW.cond_t rfl (not_f hb14) (CW.seq (CW.region (sd rfl (yl_assign rfl rfl (SeqR.done (tn (CW.ret (tr (rr rfl (.cons rfl .nil) ?_)))))))))
  have hM26 : (l_eqIdx p_a p_b) = (false) := by simp only [l_eqIdx, hb14, cond_true, cond_false, loopE_done, loopE_ret]
  rw [hM26]
  exact ⟨rfl, (Ex.trans (Ex.trans (Ex.refl w) hE6) hE12)⟩
set_option maxRecDepth 100000 in
set_option maxHeartbeats 2000000 in
theorem c_l_eqIdxS {A1 : Option Addr} {c1 : Nat} {A2 : Option Addr} {c2 : Nat} {w : World} (p_a : List DIdx) (p_b : List DIdx) (h1 : RdS w (Iv 0 w.heap.size) (RF e_Idx) 3 A1 p_a.length c1 p_a) (h2 : RdS w (Iv 0 w.heap.size) (RF e_Idx) 3 A2 p_b.length c2 p_b) : Cal Try.prog 112 #[.slice A1 p_a.length c1, .slice A2 p_b.length c2] w fun v w' => v = .bool ((l_eqIdxS p_a p_b)) ∧ Ex w w' := by
 refine Cal.of (vs := [.slice A1 p_a.length c1, .slice A2 p_b.length c2]) Try.func112 rfl Try.ntmps112 rfl (CW.seq (CW.region (sd rfl (yl_assign rfl rfl (SeqR.done (tn (CW.seq (CW.seq (CW.region ?_)))))))))
 refine sd rfl (yl_move rfl rfl (sd rfl (yl_len Try.un63 rfl rfl (sd rfl (yl_move rfl rfl (sd rfl (yl_len Try.un63 rfl rfl (sd rfl (yl_neq rfl rfl rfl (SeqR.done (tn (bcase (decide ((p_a.length : Int) = (p_b.length : Int))) (fun hb3 => ?_) (fun hb3 => ?_)))))))))))))
 ·have hb3p := dec_t hb3
  refine CW.cond_f rfl (not_t hb3) (CW.skip (tn (CW.seq (CW.seq (CW.region (sd rfl (yl_assign rfl rfl (SeqR.done (tn ?_)))))))))
  refine CW.block (CW.loop (fun m5 L6 w7 => ∃ (k4 : Nat), m5 = p_a.length - k4 ∧ k4 ≤ p_a.length ∧ w.heap.size ≤ w7.heap.size ∧ lkp L6 0 = some (.slice A1 p_a.length c1) ∧ lkp L6 1 = some (.slice A2 p_b.length c2) ∧ lkp L6 5 = some (.int .i64 ((k4 : Int))) ∧ RdS w7 (Iv 0 w.heap.size) (RF e_Idx) 3 A1 p_a.length c1 p_a ∧ RdS w7 (Iv 0 w.heap.size) (RF e_Idx) 3 A2 p_b.length c2 p_b ∧ Ex w w7 ∧ loopM (B_l_eqIdxS_0 p_a p_b) (p_a.length - k4) k4 () = loopM (B_l_eqIdxS_0 p_a p_b) (p_a.length - 0) 0 ()) (p_a.length - 0) ?_ ?_)
  ·exact ⟨0, rfl, (by omega), Nat.le_refl _, rfl, rfl, rfl, h1, h2, (Ex.refl w), rfl⟩
  ·rintro m8 L9 w10 ⟨k4, rfl, hk11, hsz13, hl14, hl15, hl16, hf17, hf18, hf19, hI12⟩
   refine CW.sub (Sub.cons hl14 (Sub.cons hl15 (Sub.cons hl16 (Sub.nil _)))) ?_
   have hf19z := Ex.size hf19
   have hbg20 := RdS.big hf17
   rcases Nat.lt_or_ge k4 p_a.length with hlt21 | hlt21
   ·refine CW.seq (CW.seq (CW.region (sd rfl (yl_move rfl rfl (sd rfl (yl_move rfl rfl (sd rfl (yl_len Try.un63 rfl rfl (sd rfl (yl_lss rfl rfl rfl (SeqR.done (tn ?_))))))))))))
    refine CW.cond_t rfl (lt_t hlt21) (CW.skip (tn (CW.seq (CW.block (CW.seq ?_)))))
    obtain ⟨eb22, eo22, ec22, eA22, eS22, ebl22, el22, eR22, eC22⟩ := RdS.atD hf17 d_Idx (i := k4) (by first | omega | assumption)
    obtain rfl := eR22
    have eC22 : Cells w10 eb22 (eo22 + k4 * 3) [.string (bs ((p_a.getD k4 d_Idx).Name)), .int .i64 ((p_a.getD k4 d_Idx).Col), .int .i64 ((p_a.getD k4 d_Idx).Stage)] := eC22
    obtain ⟨eb23, eo23, ec23, eA23, eS23, ebl23, el23, eR23, eC23⟩ := RdS.atD hf18 d_Idx (i := k4) (by first | omega | assumption)
    obtain rfl := eR23
    have eC23 : Cells w10 eb23 (eo23 + k4 * 3) [.string (bs ((p_b.getD k4 d_Idx).Name)), .int .i64 ((p_b.getD k4 d_Idx).Col), .int .i64 ((p_b.getD k4 d_Idx).Stage)] := eC23
    refine CW.drawsI 10 (vgetI [DetI (.slice A1 p_a.length c1), DetI (.int .i64 ((k4 : Int))), DetI (.pointer (some ⟨eb22, eo22 + k4 * 3, none⟩)), DetI (.agg #[.string (bs ((p_a.getD k4 d_Idx).Name)), .int .i64 ((p_a.getD k4 d_Idx).Col), .int .i64 ((p_a.getD k4 d_Idx).Stage)]), DetI (.slice A2 p_b.length c2), DetI (.int .i64 ((k4 : Int))), DetI (.pointer (some ⟨eb23, eo23 + k4 * 3, none⟩)), DetI (.agg #[.string (bs ((p_b.getD k4 d_Idx).Name)), .int .i64 ((p_b.getD k4 d_Idx).Col), .int .i64 ((p_b.getD k4 d_Idx).Stage)]), DetI (.bool ((l_eqIdx (p_a.getD k4 d_Idx) (p_b.getD k4 d_Idx)))), DetI (.bool (!(l_eqIdx (p_a.getD k4 d_Idx) (p_b.getD k4 d_Idx))))]) Try.follows rfl rfl rfl rfl rfl rfl (vgetI_stable ⟨StableI.det _, StableI.det _, StableI.det _, StableI.det _, StableI.det _, StableI.det _, StableI.det _, StableI.det _, StableI.det _, StableI.det _, trivial⟩) ⟨?_, ?_, ?_, ?_, ?_, ?_, ?_, ?_, ?_, ?_, trivial⟩ ?_
    ·exact fun _ _ h => os rfl ((yl_move rfl (h.old 0 _ rfl rfl) kI))
    ·exact fun _ _ h => os rfl ((yl_move rfl (h.old 5 _ rfl rfl) kI))
    ·intro L35 w36 hi37
     have hE38 := hi37.ex
     have hE38z := Ex.size hE38
     exact os rfl ((yl_indexAddrN Try.un63 Try.ty152 rfl (hi37.dt 0 17 rfl rfl rfl) (hi37.dt 1 18 rfl rfl rfl) eA22 (by first | omega | assumption | (simp only [IntKind.wrap_i64] at *; omega)) kI))
    ·exact fun _ _ h => os rfl ((yl_loadN (cs := [.string (bs ((p_a.getD k4 d_Idx).Name)), .int .i64 ((p_a.getD k4 d_Idx).Col), .int .i64 ((p_a.getD k4 d_Idx).Stage)]) Try.ty152 rfl (h.dt 2 19 rfl rfl rfl) (Cells.ex eC22 h.ex) rfl kI))
    ·exact fun _ _ h => os rfl ((yl_move rfl (h.old 1 _ rfl rfl) kI))
    ·exact fun _ _ h => os rfl ((yl_move rfl (h.old 5 _ rfl rfl) kI))
    ·intro L57 w58 hi59
     have hE60 := hi59.ex
     have hE60z := Ex.size hE60
     exact os rfl ((yl_indexAddrN Try.un63 Try.ty152 rfl (hi59.dt 4 21 rfl rfl rfl) (hi59.dt 5 22 rfl rfl rfl) eA23 (by first | omega | assumption | (simp only [IntKind.wrap_i64] at *; omega)) kI))
    ·exact fun _ _ h => os rfl ((yl_loadN (cs := [.string (bs ((p_b.getD k4 d_Idx).Name)), .int .i64 ((p_b.getD k4 d_Idx).Col), .int .i64 ((p_b.getD k4 d_Idx).Stage)]) Try.ty152 rfl (h.dt 6 23 rfl rfl rfl) (Cells.ex eC23 h.ex) rfl kI))
    ·intro L69 w70 hi71
     refine OpR.op' rfl (yl_call Try.en171 rfl (opvs_cons (hi71.dt 3 20 rfl rfl rfl) (opvs_cons (hi71.dt 7 24 rfl rfl rfl) opvs_nil)) (Cal.mono (c_l_eqIdx (p_a.getD k4 d_Idx) (p_b.getD k4 d_Idx)) ?_))
     rintro v76 w75 ⟨rfl, hE77⟩
     exact ⟨rfl, hE77⟩
    ·exact fun _ _ h => os rfl ((yl_not rfl (h.dt 8 25 rfl rfl rfl) kI))
    ·intro fl86 fh87 L83 w84 hp85
     have hE88 := hp85.ex
     have hE88z := Ex.size hE88
     refine SeqR.done (tn (CW.sub (Sub.cons (d := 0) (hp85.old 0 _ rfl rfl) (Sub.cons (d := 1) (hp85.old 1 _ rfl rfl) (Sub.cons (d := 5) (hp85.old 5 _ rfl rfl) (Sub.cons (d := 26) (hp85.nt 9 26 rfl rfl rfl) (Sub.nil _))))) (bcase (l_eqIdx (p_a.getD k4 d_Idx) (p_b.getD k4 d_Idx)) (fun hb93 => ?_) (fun hb93 => ?_))))
     ·refine CW.cond_f rfl (not_t hb93) (CW.skip (bn (tn (CW.region (sd rfl (yl_move rfl rfl (sd rfl (yl_inc rfl rfl rfl (by omega) (sd rfl (yl_assign rfl rfl (SeqR.done ?_)))))))))))
      refine tn ?_
      have hB94 : B_l_eqIdxS_0 p_a p_b k4 () = .cont () := by simp only [B_l_eqIdxS_0, hb3, hb93, cond_true, cond_false, loopE_done, loopE_ret]
      exact ⟨p_a.length - (k4 + 1), by omega, k4 + 1, rfl, hlt21, (by omega), rfl, rfl, rfl, (RdS.ex good_Idx hf17 hE88), (RdS.ex good_Idx hf18 hE88), (Ex.trans hf19 hE88), (loopM.cont hlt21 hB94).symm.trans hI12⟩
     ·refine CW.cond_t rfl (not_f hb93) (CW.seq (CW.region (sd rfl (yl_assign rfl rfl (SeqR.done (tn (CW.ret (br (tr ?_)))))))))
      refine tr ?_
      have hB99 : B_l_eqIdxS_0 p_a p_b k4 () = .ret false := by simp only [B_l_eqIdxS_0, hb3, hb93, cond_true, cond_false, loopE_done, loopE_ret]
      have hL98 : loopM (B_l_eqIdxS_0 p_a p_b) (p_a.length - 0) 0 () = .ret false := hI12.symm.trans (loopM.ret hlt21 hB99)
      refine br (tr (rr rfl (.cons rfl .nil) ?_))
      have hM100 : (l_eqIdxS p_a p_b) = (false) := by simp only [l_eqIdxS, hb3, hb93, hL98, cond_true, cond_false, loopE_done, loopE_ret]
      rw [hM100]
      exact ⟨rfl, (Ex.trans hf19 hE88)⟩
   ·refine CW.seq (CW.seq (CW.region (sd rfl (yl_move rfl rfl (sd rfl (yl_move rfl rfl (sd rfl (yl_len Try.un63 rfl rfl (sd rfl (yl_lss rfl rfl rfl (SeqR.done (tn ?_))))))))))))
    refine CW.cond_f rfl (lt_f hlt21) (CW.exit (tx (tx ?_)))
    have hL102 : loopM (B_l_eqIdxS_0 p_a p_b) (p_a.length - 0) 0 () = .done () := hI12.symm.trans (loopM.stop hlt21)
    refine bx (tn (CW.seq (CW.region (sd rfl (yl_assign rfl rfl (SeqR.done (tn (CW.ret (rr rfl (.cons rfl .nil) ?_)))))))))
    have hM103 : (l_eqIdxS p_a p_b) = (true) := by simp only [l_eqIdxS, hb3, hL102, cond_true, cond_false, loopE_done, loopE_ret]
    rw [hM103]
    exact ⟨rfl, hf19⟩
 ·have hb3p := dec_f hb3
  refine CW.cond_t rfl (not_f hb3) (CW.seq (CW.region (sd rfl (yl_assign rfl rfl (SeqR.done (tn (CW.ret (tr (rr rfl (.cons rfl .nil) ?_)))))))))
  have hM104 : (l_eqIdxS p_a p_b) = (false) := by simp only [l_eqIdxS, hb3, cond_true, cond_false, loopE_done, loopE_ret]
  rw [hM104]
  exact ⟨rfl, (Ex.refl w)⟩
set_option maxRecDepth 100000 in
set_option maxHeartbeats 2000000 in
theorem c_l_eqTable {A1 : Option Addr} {c1 : Nat} {A2 : Option Addr} {c2 : Nat} {A3 : Option Addr} {c3 : Nat} {A4 : Option Addr} {c4 : Nat} {w : World} (p_a : DTable) (p_b : DTable) (h1 : RdS w (Iv 0 w.heap.size) (RF e_Str) 1 A1 p_a.Cols.length c1 p_a.Cols) (h2 : RdS w (Iv 0 w.heap.size) (RF e_Idx) 3 A2 p_a.Idxs.length c2 p_a.Idxs) (h3 : RdS w (Iv 0 w.heap.size) (RF e_Str) 1 A3 p_b.Cols.length c3 p_b.Cols) (h4 : RdS w (Iv 0 w.heap.size) (RF e_Idx) 3 A4 p_b.Idxs.length c4 p_b.Idxs) : Cal Try.prog 39 #[.agg #[.string (bs (p_a.Name)), .slice A1 p_a.Cols.length c1, .slice A2 p_a.Idxs.length c2], .agg #[.string (bs (p_b.Name)), .slice A3 p_b.Cols.length c3, .slice A4 p_b.Idxs.length c4]] w fun v w' => v = .bool ((l_eqTable p_a p_b)) ∧ Ex w w' := by
 refine Cal.of (vs := [.agg #[.string (bs (p_a.Name)), .slice A1 p_a.Cols.length c1, .slice A2 p_a.Idxs.length c2], .agg #[.string (bs (p_b.Name)), .slice A3 p_b.Cols.length c3, .slice A4 p_b.Idxs.length c4]]) Try.func39 rfl Try.ntmps39 rfl (CW.seq (CW.region (sd rfl (yl_box (cs := [.string (bs (p_a.Name)), .slice A1 p_a.Cols.length c1, .slice A2 p_a.Idxs.length c2]) rfl rfl rfl ?_))))
 intro b5 w6 hs7 hz8 hB9 hE10
 refine sd rfl (yl_box (cs := [.string (bs (p_b.Name)), .slice A3 p_b.Cols.length c3, .slice A4 p_b.Idxs.length c4]) rfl rfl rfl ?_)
 intro b11 w12 hs13 hz14 hB15 hE16
 refine sd rfl (yl_assign rfl rfl (SeqR.done (tn (CW.seq (CW.seq (CW.region (sd rfl (yl_fieldAddr Try.fd65_0 rfl rfl ?_))))))))
 have q17 := Box.ex hB9 hE16
 refine sd rfl (yl_load1 Try.ty9 rfl rfl ((q17.cell 0).trans rfl) (sd rfl (yl_fieldAddr Try.fd65_0 rfl rfl (sd rfl (yl_load1 Try.ty9 rfl rfl ((hB15.cell 0).trans rfl) (sd rfl (yl_sneq (a := p_a.Name) (b := p_b.Name) rfl rfl rfl (SeqR.done (tn (bcase (p_a.Name == p_b.Name) (fun hb18 => ?_) (fun hb18 => ?_)))))))))))
 ·refine CW.cond_f rfl (not_t hb18) (CW.skip (tn (CW.seq (CW.seq (CW.region (sd rfl (yl_fieldAddr Try.fd65_1 rfl rfl (sd rfl (yl_load1 Try.ty52 rfl rfl ((q17.cell 1).trans rfl) (sd rfl (yl_fieldAddr Try.fd65_1 rfl rfl ?_)))))))))))
  refine sd rfl (yl_load1 Try.ty52 rfl rfl ((hB15.cell 1).trans rfl) (sd rfl (yl_call Try.en51 rfl (opvs_cons rfl (opvs_cons rfl opvs_nil)) (Cal.mono (c_l_eqStringS p_a.Cols p_b.Cols (RdS.up (RdS.ex good_Str (RdS.ex good_Str h1 hE10) hE16) good_Str) (RdS.up (RdS.ex good_Str (RdS.ex good_Str h3 hE10) hE16) good_Str)) ?_))))
  rintro v24 w23 ⟨rfl, hE25⟩
  have hE25z := Ex.size hE25
  refine sd rfl (yl_not rfl rfl (SeqR.done (tn (bcase (l_eqStringS p_a.Cols p_b.Cols) (fun hb26 => ?_) (fun hb26 => ?_)))))
  ·refine CW.cond_f rfl (not_t hb26) (CW.skip (tn (CW.seq (CW.seq (CW.region (sd rfl (yl_fieldAddr Try.fd65_2 rfl rfl (sd rfl (yl_load1 Try.ty63 rfl rfl (((Box.ex q17 hE25).cell 2).trans rfl) (sd rfl (yl_fieldAddr Try.fd65_2 rfl rfl ?_)))))))))))
   refine sd rfl (yl_load1 Try.ty63 rfl rfl (((Box.ex hB15 hE25).cell 2).trans rfl) (sd rfl (yl_call Try.en112 rfl (opvs_cons rfl (opvs_cons rfl opvs_nil)) (Cal.mono (c_l_eqIdxS p_a.Idxs p_b.Idxs (RdS.up (RdS.ex good_Idx (RdS.ex good_Idx (RdS.ex good_Idx h2 hE10) hE16) hE25) good_Idx) (RdS.up (RdS.ex good_Idx (RdS.ex good_Idx (RdS.ex good_Idx h4 hE10) hE16) hE25) good_Idx)) ?_))))
   rintro v36 w35 ⟨rfl, hE37⟩
   have hE37z := Ex.size hE37
   refine sd rfl (yl_not rfl rfl (SeqR.done (tn (bcase (l_eqIdxS p_a.Idxs p_b.Idxs) (fun hb38 => ?_) (fun hb38 => ?_)))))
   ·refine CW.cond_f rfl (not_t hb38) (CW.skip (tn (CW.seq (CW.region (sd rfl (yl_assign rfl rfl (SeqR.done (tn (CW.ret ?_)))))))))
    refine rr rfl (.cons rfl .nil) ?_
    have hM39 : (l_eqTable p_a p_b) = (true) := by simp only [l_eqTable, hb18, hb26, hb38, cond_true, cond_false, loopE_done, loopE_ret]
    rw [hM39]
    exact ⟨rfl, (Ex.trans (Ex.trans (Ex.trans (Ex.trans (Ex.refl w) hE10) hE16) hE25) hE37)⟩
   ·refine CW.cond_t rfl (not_f hb38) (CW.seq (CW.region (sd rfl (yl_assign rfl rfl (SeqR.done (tn (CW.ret (tr (rr rfl (.cons rfl .nil) ?_)))))))))
    have hM44 : (l_eqTable p_a p_b) = (false) := by simp only [l_eqTable, hb18, hb26, hb38, cond_true, cond_false, loopE_done, loopE_ret]
    rw [hM44]
    exact ⟨rfl, (Ex.trans (Ex.trans (Ex.trans (Ex.trans (Ex.refl w) hE10) hE16) hE25) hE37)⟩
  ·refine CW.cond_t rfl (not_f hb26) (CW.seq (CW.region (sd rfl (yl_assign rfl rfl (SeqR.done (tn (CW.ret (tr (rr rfl (.cons rfl .nil) ?_)))))))))
   have hM49 : (l_eqTable p_a p_b) = (false) := by simp only [l_eqTable, hb18, hb26, cond_true, cond_false, loopE_done, loopE_ret]
   rw [hM49]
   exact ⟨rfl, (Ex.trans (Ex.trans (Ex.trans (Ex.refl w) hE10) hE16) hE25)⟩
 ·refine CW.cond_t rfl (not_f hb18) (CW.seq (CW.region (sd rfl (yl_assign rfl rfl (SeqR.done (tn (CW.ret (tr (rr rfl (.cons rfl .nil) ?_)))))))))
  have hM53 : (l_eqTable p_a p_b) = (false) := by simp only [l_eqTable, hb18, cond_true, cond_false, loopE_done, loopE_ret]
  rw [hM53]
  exact ⟨rfl, (Ex.trans (Ex.trans (Ex.refl w) hE10) hE16)⟩
set_option maxRecDepth 100000 in
set_option maxHeartbeats 2000000 in
theorem c_l_eqRow {A1 : Option Addr} {c1 : Nat} {A2 : Option Addr} {c2 : Nat} {w : World} (p_a : DRow) (p_b : DRow) (h1 : RdS w (Iv 0 w.heap.size) (RF e_Str) 1 A1 p_a.Vals.length c1 p_a.Vals) (h2 : RdS w (Iv 0 w.heap.size) (RF e_Str) 1 A2 p_b.Vals.length c2 p_b.Vals) : Cal Try.prog 40 #[.agg #[.slice A1 p_a.Vals.length c1], .agg #[.slice A2 p_b.Vals.length c2]] w fun v w' => v = .bool ((l_eqRow p_a p_b)) ∧ Ex w w' := by
 refine Cal.of (vs := [.agg #[.slice A1 p_a.Vals.length c1], .agg #[.slice A2 p_b.Vals.length c2]]) Try.func40 rfl Try.ntmps40 rfl (CW.seq (CW.region (sd rfl (yl_box (cs := [.slice A1 p_a.Vals.length c1]) rfl rfl rfl ?_))))
 intro b3 w4 hs5 hz6 hB7 hE8
 refine sd rfl (yl_box (cs := [.slice A2 p_b.Vals.length c2]) rfl rfl rfl ?_)
 intro b9 w10 hs11 hz12 hB13 hE14
 refine sd rfl (yl_assign rfl rfl (SeqR.done (tn (CW.seq (CW.seq (CW.region (sd rfl (yl_fieldAddr Try.fd67_0 rfl rfl (sd rfl (yl_load1 Try.ty52 rfl rfl (((Box.ex hB7 hE14).cell 0).trans rfl) (sd rfl (yl_fieldAddr Try.fd67_0 rfl rfl ?_))))))))))))
 refine sd rfl (yl_load1 Try.ty52 rfl rfl ((hB13.cell 0).trans rfl) (sd rfl (yl_call Try.en51 rfl (opvs_cons rfl (opvs_cons rfl opvs_nil)) (Cal.mono (c_l_eqStringS p_a.Vals p_b.Vals (RdS.up (RdS.ex good_Str (RdS.ex good_Str h1 hE8) hE14) good_Str) (RdS.up (RdS.ex good_Str (RdS.ex good_Str h2 hE8) hE14) good_Str)) ?_))))
 rintro v21 w20 ⟨rfl, hE22⟩
 have hE22z := Ex.size hE22
 refine sd rfl (yl_not rfl rfl (SeqR.done (tn (bcase (l_eqStringS p_a.Vals p_b.Vals) (fun hb23 => ?_) (fun hb23 => ?_)))))
 ·refine CW.cond_f rfl (not_t hb23) (CW.skip (tn (CW.seq (CW.region (sd rfl (yl_assign rfl rfl (SeqR.done (tn (CW.ret ?_)))))))))
  refine rr rfl (.cons rfl .nil) ?_
  have hM24 : (l_eqRow p_a p_b) = (true) := by simp only [l_eqRow, hb23, cond_true, cond_false, loopE_done, loopE_ret]
  rw [hM24]
  exact ⟨rfl, (Ex.trans (Ex.trans (Ex.trans (Ex.refl w) hE8) hE14) hE22)⟩
 ·refine CW.cond_t rfl (not_f hb23) (CW.seq (CW.region (sd rfl (yl_assign rfl rfl (SeqR.done (tn (CW.ret (tr (rr rfl (.cons rfl .nil) ?_)))))))))
  have hM28 : (l_eqRow p_a p_b) = (false) := by simp only [l_eqRow, hb23, cond_true, cond_false, loopE_done, loopE_ret]
  rw [hM28]
  exact ⟨rfl, (Ex.trans (Ex.trans (Ex.trans (Ex.refl w) hE8) hE14) hE22)⟩
set_option maxRecDepth 100000 in
set_option maxHeartbeats 2000000 in
theorem c_l_markText {w : World} (p_k : Int) (pre0 : p_k ≤ 9223372036854775807) : Cal Try.prog 95 #[.int .i64 (p_k)] w fun v w' => v = .string (bs ((l_markText p_k))) ∧ Ex w w' := by
 refine Cal.of (vs := [.int .i64 (p_k)]) Try.func95 rfl Try.ntmps95 rfl (CW.seq (CW.region (sd rfl (yl_assign rfl rfl (SeqR.done (tn (CW.seq (CW.seq (CW.region ?_)))))))))
 refine sd rfl (yl_move rfl rfl (sd rfl (yl_leq rfl rfl rfl (SeqR.done (tn (bcase (decide (p_k ≤ 0)) (fun hb1 => ?_) (fun hb1 => ?_)))))))
 ·have hb1p := dec_t hb1
  refine CW.cond_t rfl hb1 (CW.seq (CW.region (sd rfl (yl_assign rfl rfl (SeqR.done (tn (CW.ret (tr (rr rfl (.cons rfl .nil) ?_)))))))))
  have hM2 : (l_markText p_k) = (([109, 48] : Str)) := by simp only [l_markText, hb1, cond_true, cond_false, loopE_done, loopE_ret]
  rw [hM2]
  exact ⟨rfl, (Ex.refl w)⟩
 ·have hb1p := dec_f hb1
  refine CW.cond_f rfl hb1 (CW.skip (tn (CW.seq (CW.region (sd rfl (yl_assign rfl rfl (SeqR.done (tn (CW.seq ?_)))))))))
  refine CW.block (CW.loop (fun m18 L19 w20 => ∃ (x16 : Int) (x17 : Str), (((x16).toNat + 1) / 2) < m18 ∧ w.heap.size ≤ w20.heap.size ∧ lkp L19 0 = some (.int .i64 (x16)) ∧ lkp L19 3 = some (.string (bs (x17))) ∧ Ex w w20 ∧ x17.length + 1 * (((x16).toNat + 1) / 2) ≤ 0 + 1 * (((p_k).toNat + 1) / 2) ∧ x16 ≤ 9223372036854775807 ∧ loopW (B_l_markText_0 p_k) m18 (x16, x17) = loopW (B_l_markText_0 p_k) ((((p_k).toNat + 1) / 2) + 1) (p_k, ([] : Str))) ((((p_k).toNat + 1) / 2) + 1) ?_ ?_)
  ·exact ⟨p_k, ([] : Str), Nat.lt_succ_self _, Nat.le_refl _, rfl, rfl, (Ex.refl w), (by first | (simp; done) | (first | omega | (simp only [List.length_append, List.length_cons, List.length_nil, List.length_set, toS_length]; omega))), (by first | omega | assumption | (simp only [IntKind.wrap_i64] at *; omega)), rfl⟩
  ·rintro m21 L22 w23 ⟨x16, x17, hk24, hsz26, hl27, hl28, hf29, hln30, hv31, hI25⟩
   refine CW.sub (Sub.cons hl27 (Sub.cons hl28 (Sub.nil _))) ?_
   have hf29z := Ex.size hf29
   refine CW.seq (CW.seq (CW.region (sd rfl (yl_move rfl rfl (sd rfl (yl_gtr rfl rfl rfl (SeqR.done (tn (bcase (decide (0 < x16)) (fun hb32 => ?_) (fun hb32 => ?_))))))))))
   ·have hb32p := dec_t hb32
    refine CW.cond_t rfl hb32 (CW.skip (tn (CW.block (CW.seq (CW.region (sd rfl (yl_move rfl rfl (sd rfl (yl_rem rfl rfl rfl (by decide) (sd rfl (yl_add rfl rfl rfl ?_)))))))))))
    refine sd rfl (yl_conv Try.un3 Try.un5 rfl rfl (sd rfl (yl_buildSlice (cs := [.int .u8 (IntKind.wrap .u8 (IntKind.wrap .i64 (48 + (Int.tmod x16 10))))]) Try.un197 Try.ty5 (by decide) rfl (opvs_cons rfl opvs_nil) (by kernel_rfl) ?_)))
    intro b33 w34 hs35 hz36 hB37 hE38
    have hO39 : OwnL w34 b33 (b33 + 1) 5 1 (RF e_U8) (some ⟨b33, 0, none⟩) 1 1 ([IntKind.wrap .u8 (IntKind.wrap .i64 (48 + (Int.tmod x16 10)))] : List Int) := OwnL.of_box (S := fun _ => False) hB37 (Nat.le_refl _) (Nat.lt_succ_self _) (EncL.cons (c := [.int .u8 (IntKind.wrap .u8 (IntKind.wrap .i64 (48 + (Int.tmod x16 10))))]) rfl rfl EncL.nil) (Nat.le_of_ble_eq_true rfl) (fun h => h) (fun _ h => False.elim h)
    refine sd rfl (yl_toS Try.un197 Try.un5 Try.un9 rfl rfl (OwnL.rd good_U8 hO39) (sd rfl (yl_move rfl rfl ?_)))
    have hol41 : (toS ([IntKind.wrap .u8 (IntKind.wrap .i64 (48 + (Int.tmod x16 10)))] : List Int)).length ≤ 1073741824 := (okS_toS (Nat.le_of_ble_eq_true rfl))
    refine sd rfl (yl_sadd (a := (toS ([IntKind.wrap .u8 (IntKind.wrap .i64 (48 + (Int.tmod x16 10)))] : List Int))) (b := x17) rfl rfl rfl (by first | omega | (simp only [List.length_append, List.length_cons, List.length_nil, List.length_take, List.length_drop, toS_length]; omega)) (sd rfl (yl_assign rfl rfl (SeqR.done (tn (CW.region (sd rfl (yl_move rfl rfl (sd rfl (yl_quo rfl rfl rfl (by decide) (sd rfl (yl_assign rfl rfl (SeqR.done ?_)))))))))))))
    refine bn (tn ?_)
    have hB42 : B_l_markText_0 p_k (x16, x17) = .cont (IntKind.wrap .i64 (Int.tdiv x16 10), (toS ([IntKind.wrap .u8 (IntKind.wrap .i64 (48 + (Int.tmod x16 10)))] : List Int)) ++ x17) := by simp only [B_l_markText_0, hb1, hb32, cond_true, cond_false, loopE_done, loopE_ret]
    have hmu44 : (((IntKind.wrap .i64 (Int.tdiv x16 10)).toNat + 1) / 2) < (((x16).toNat + 1) / 2) := by (have hq := wtd (n := x16) (c := 10) (by decide) (by omega) (by omega); omega)
    exact ⟨m21 - 1, by omega, IntKind.wrap .i64 (Int.tdiv x16 10), (toS ([IntKind.wrap .u8 (IntKind.wrap .i64 (48 + (Int.tmod x16 10)))] : List Int)) ++ x17, (by omega), (by omega), rfl, rfl, (Ex.trans hf29 hE38), (by first | omega | (simp only [List.length_append, List.length_cons, List.length_nil, List.length_set, toS_length]; omega)), (by (have hq := wtd (n := x16) (c := 10) (by decide) (by omega) (by omega); omega)), (loopW.cont hk24 hB42).symm.trans hI25⟩
   ·have hb32p := dec_f hb32
    refine CW.cond_f rfl hb32 (CW.exit (tx (tx ?_)))
    have hB46 : B_l_markText_0 p_k (x16, x17) = .brk (x16, x17) := by simp only [B_l_markText_0, hb1, hb32, cond_true, cond_false, loopE_done, loopE_ret]
    have hL45 : loopW (B_l_markText_0 p_k) ((((p_k).toNat + 1) / 2) + 1) (p_k, ([] : Str)) = .done (x16, x17) := hI25.symm.trans (loopW.brk hk24 hB46)
    refine bx (tn (CW.seq (CW.region (sd rfl (yl_move rfl rfl (sd rfl (yl_sadd (a := ([109] : Str)) (b := x17) rfl rfl rfl (by first | omega | (simp only [List.length_append, List.length_cons, List.length_nil, List.length_take, List.length_drop, toS_length]; omega)) (sd rfl (yl_assign rfl rfl (SeqR.done (tn ?_)))))))))))
    refine CW.ret (rr rfl (.cons rfl .nil) ?_)
    have hM47 : (l_markText p_k) = (([109] : Str) ++ x17) := by simp only [l_markText, hb1, hb32, hL45, cond_true, cond_false, loopE_done, loopE_ret]
    rw [hM47]
    exact ⟨rfl, hf29⟩
set_option maxRecDepth 100000 in
set_option maxHeartbeats 2000000 in
theorem c_l_markStringS {A1 : Option Addr} {c1 : Nat} {lo1 hi1 : Nat} {w : World} (p_a : List Str) (p_k : Int) (h1 : OwnL w lo1 hi1 9 1 (RF e_Str) A1 p_a.length c1 p_a) (hrn2 : (0 ≤ lo1 ∧ lo1 ≤ hi1 ∧ hi1 ≤ w.heap.size)) (pre0 : p_k ≤ 9223372036854775807) : Cal Try.prog 54 #[.slice A1 p_a.length c1, .int .i64 (p_k)] w fun v w' => v = .int .i64 ((l_markStringS p_a p_k).1) ∧ OwnL w' lo1 hi1 9 1 (RF e_Str) A1 p_a.length c1 ((l_markStringS p_a p_k).2) ∧ Mut [(lo1, hi1)] w w' := by
 refine Cal.of (vs := [.slice A1 p_a.length c1, .int .i64 (p_k)]) Try.func54 rfl Try.ntmps54 rfl (CW.seq (CW.region (sd rfl (yl_assign rfl rfl (SeqR.done (tn (CW.seq (CW.seq (CW.region ?_)))))))))
 refine sd rfl (yl_assign rfl rfl (SeqR.done (tn (CW.block (CW.loop (fun m16 L17 w18 => ∃ (k3 : Nat) (x14 : Int) (x15 : List Str), m16 = p_a.length - k3 ∧ k3 ≤ p_a.length ∧ w.heap.size ≤ w18.heap.size ∧ lkp L17 0 = some (.slice A1 p_a.length c1) ∧ lkp L17 1 = some (.int .i64 (x14)) ∧ lkp L17 5 = some (.int .i64 ((k3 : Int))) ∧ OwnL w18 lo1 hi1 9 1 (RF e_Str) A1 p_a.length c1 x15 ∧ Mut [(lo1, hi1)] w w18 ∧ x14 ≤ 9223372036854775807 ∧ loopM (B_l_markStringS_0 p_a p_k) (p_a.length - k3) k3 (x14, x15) = loopM (B_l_markStringS_0 p_a p_k) (p_a.length - 0) 0 (p_k, p_a)) (p_a.length - 0) ?_ ?_)))))
 ·exact ⟨0, p_k, p_a, rfl, (by omega), Nat.le_refl _, rfl, rfl, rfl, h1, (Mut.refl (l := [(lo1, hi1)]) w), (by first | omega | assumption | (simp only [IntKind.wrap_i64] at *; omega)), rfl⟩
 ·rintro m19 L20 w21 ⟨k3, x14, x15, rfl, hk22, hsz24, hl25, hl26, hl27, hf28, hf29, hv30, hI23⟩
  refine CW.sub (Sub.cons hl25 (Sub.cons hl26 (Sub.cons hl27 (Sub.nil _)))) ?_
  have hf29z := Mut.size hf29
  have hbg31 := RdS.big (OwnL.rd good_Str hf28)
  rcases Nat.lt_or_ge k3 p_a.length with hlt33 | hlt33
  ·refine CW.seq (CW.seq (CW.region (sd rfl (yl_move rfl rfl (sd rfl (yl_move rfl rfl (sd rfl (yl_len Try.un52 rfl rfl (sd rfl (yl_lss rfl rfl rfl (SeqR.done (tn ?_))))))))))))
   refine CW.cond_t rfl (lt_t hlt33) (CW.skip (tn (CW.seq (CW.block (CW.seq (CW.region (sd rfl (yl_move rfl rfl (sd rfl (yl_move rfl rfl ?_))))))))))
   refine sd rfl (yl_move rfl rfl (sd rfl (yl_call Try.en95 rfl (opvs_cons rfl opvs_nil) (Cal.mono (c_l_markText x14 (by first | omega | assumption | (simp only [IntKind.wrap_i64] at *; omega))) ?_))))
   rintro v35 w34 ⟨rfl, hE36⟩
   have hE36z := Ex.size hE36
   have q38 := OwnL.ex good_Str hf28 hE36
   obtain ⟨eb39, eo39, ec39, eA39, eS39, ebl39, el39, eR39, eC39⟩ := RdS.atD (OwnL.rd good_Str q38) d_Str (i := k3) (by first | omega | assumption)
   obtain rfl := eR39
   have eC39 : Cells w34 eb39 (eo39 + k3 * 1) [.string (bs ((x15.getD k3 d_Str)))] := eC39
   refine sd rfl (yl_indexAddrN Try.un52 Try.ty9 rfl rfl rfl eA39 (by first | omega | assumption | (simp only [IntKind.wrap_i64] at *; omega)) ?_)
   have hrg40 := OwnL.rng q38 (i := k3) (by first | omega | assumption | (simp only [IntKind.wrap_i64] at *; omega)) eb39 (by rw [eA39]; rfl)
   refine SeqR.u rfl rfl (yl_storeF (off := eo39) (i := k3) (d := 0) (dx := d_Str) (x' := (l_markText x14)) (vs := [.string (bs ((l_markText x14)))]) Try.ty9 rfl q38 eA39 rfl rfl rfl rfl rfl (by first | omega | assumption | (simp only [IntKind.wrap_i64] at *; omega)) (Nat.le_of_ble_eq_true rfl) rfl rfl ?_)
   intro w41 hB42 hO43
   have hO43z := hO43.size
   refine SeqR.done (tn (CW.region (sd rfl (yl_move rfl rfl (sd rfl (yl_add rfl rfl rfl (sd rfl (yl_assign rfl rfl (SeqR.done (bn (tn ?_)))))))))))
   refine CW.region (sd rfl (yl_move rfl rfl (sd rfl (yl_inc rfl rfl rfl (by omega) (sd rfl (yl_assign rfl rfl (SeqR.done (tn ?_))))))))
   have hB44 : B_l_markStringS_0 p_a p_k k3 (x14, x15) = .cont (IntKind.wrap .i64 (x14 + 1), (x15.set k3 (l_markText x14))) := by simp only [B_l_markStringS_0, cond_true, cond_false, loopE_done, loopE_ret]
   exact ⟨p_a.length - (k3 + 1), by omega, k3 + 1, IntKind.wrap .i64 (x14 + 1), (x15.set k3 (l_markText x14)), rfl, hlt33, (by omega), rfl, rfl, rfl, hB42, (Mut.only (Mut.ex hf29 hE36) hO43 (by simp only [InR, or_false]; omega)), (by first | omega | assumption | (simp only [IntKind.wrap_i64] at *; omega)), (loopM.cont hlt33 hB44).symm.trans hI23⟩
  ·refine CW.seq (CW.seq (CW.region (sd rfl (yl_move rfl rfl (sd rfl (yl_move rfl rfl (sd rfl (yl_len Try.un52 rfl rfl (sd rfl (yl_lss rfl rfl rfl (SeqR.done (tn ?_))))))))))))
   refine CW.cond_f rfl (lt_f hlt33) (CW.exit (tx (tx ?_)))
   have hL47 : loopM (B_l_markStringS_0 p_a p_k) (p_a.length - 0) 0 (p_k, p_a) = .done (x14, x15) := hI23.symm.trans (loopM.stop hlt33)
   refine bx (tn (CW.seq (CW.region (sd rfl (yl_move rfl rfl (sd rfl (yl_assign rfl rfl (SeqR.done (tn (CW.ret ?_))))))))))
   refine rr rfl (.cons rfl .nil) ?_
   have hM48 : (l_markStringS p_a p_k) = ((x14, x15)) := by simp only [l_markStringS, hL47, cond_true, cond_false, loopE_done, loopE_ret]
   rw [hM48]
   exact ⟨rfl, hf28, hf29⟩
set_option maxRecDepth 100000 in
set_option maxHeartbeats 2000000 in
theorem c_l_markIdxS {A1 : Option Addr} {c1 : Nat} {lo1 hi1 : Nat} {w : World} (p_a : List DIdx) (p_k : Int) (h1 : OwnL w lo1 hi1 152 3 (RF e_Idx) A1 p_a.length c1 p_a) (hrn2 : (0 ≤ lo1 ∧ lo1 ≤ hi1 ∧ hi1 ≤ w.heap.size)) (pre0 : p_k ≤ 9223372036854775807) : Cal Try.prog 113 #[.slice A1 p_a.length c1, .int .i64 (p_k)] w fun v w' => v = .int .i64 ((l_markIdxS p_a p_k).1) ∧ OwnL w' lo1 hi1 152 3 (RF e_Idx) A1 p_a.length c1 ((l_markIdxS p_a p_k).2) ∧ Mut [(lo1, hi1)] w w' := by
 refine Cal.of (vs := [.slice A1 p_a.length c1, .int .i64 (p_k)]) Try.func113 rfl Try.ntmps113 rfl (CW.seq (CW.region (sd rfl (yl_assign rfl rfl (SeqR.done (tn (CW.seq (CW.seq (CW.region ?_)))))))))
 refine sd rfl (yl_assign rfl rfl (SeqR.done (tn (CW.block (CW.loop (fun m28 L29 w30 => ∃ (k3 : Nat) (x26 : Int) (x27 : List DIdx), m28 = p_a.length - k3 ∧ k3 ≤ p_a.length ∧ w.heap.size ≤ w30.heap.size ∧ lkp L29 0 = some (.slice A1 p_a.length c1) ∧ lkp L29 1 = some (.int .i64 (x26)) ∧ lkp L29 5 = some (.int .i64 ((k3 : Int))) ∧ OwnL w30 lo1 hi1 152 3 (RF e_Idx) A1 p_a.length c1 x27 ∧ Mut [(lo1, hi1)] w w30 ∧ x26 ≤ 9223372036854775807 ∧ loopM (B_l_markIdxS_0 p_a p_k) (p_a.length - k3) k3 (x26, x27) = loopM (B_l_markIdxS_0 p_a p_k) (p_a.length - 0) 0 (p_k, p_a)) (p_a.length - 0) ?_ ?_)))))
 ·exact ⟨0, p_k, p_a, rfl, (by omega), Nat.le_refl _, rfl, rfl, rfl, h1, (Mut.refl (l := [(lo1, hi1)]) w), (by first | omega | assumption | (simp only [IntKind.wrap_i64] at *; omega)), rfl⟩
 ·rintro m31 L32 w33 ⟨k3, x26, x27, rfl, hk34, hsz36, hl37, hl38, hl39, hf40, hf41, hv42, hI35⟩
  refine CW.sub (Sub.cons hl37 (Sub.cons hl38 (Sub.cons hl39 (Sub.nil _)))) ?_
  have hf41z := Mut.size hf41
  have hbg43 := RdS.big (OwnL.rd good_Idx hf40)
  rcases Nat.lt_or_ge k3 p_a.length with hlt45 | hlt45
  ·refine CW.seq (CW.seq (CW.region (sd rfl (yl_move rfl rfl (sd rfl (yl_move rfl rfl (sd rfl (yl_len Try.un63 rfl rfl (sd rfl (yl_lss rfl rfl rfl (SeqR.done (tn ?_))))))))))))
   refine CW.cond_t rfl (lt_t hlt45) (CW.skip (tn (CW.seq (CW.block (CW.seq (CW.region (sd rfl (yl_move rfl rfl (sd rfl (yl_move rfl rfl ?_))))))))))
   refine sd rfl (yl_move rfl rfl (sd rfl (yl_call Try.en95 rfl (opvs_cons rfl opvs_nil) (Cal.mono (c_l_markText x26 (by first | omega | assumption | (simp only [IntKind.wrap_i64] at *; omega))) ?_))))
   rintro v47 w46 ⟨rfl, hE48⟩
   have hE48z := Ex.size hE48
   have q50 := OwnL.ex good_Idx hf40 hE48
   obtain ⟨eb51, eo51, ec51, eA51, eS51, ebl51, el51, eR51, eC51⟩ := RdS.atD (OwnL.rd good_Idx q50) d_Idx (i := k3) (by first | omega | assumption)
   obtain rfl := eR51
   have eC51 : Cells w46 eb51 (eo51 + k3 * 3) [.string (bs ((x27.getD k3 d_Idx).Name)), .int .i64 ((x27.getD k3 d_Idx).Col), .int .i64 ((x27.getD k3 d_Idx).Stage)] := eC51
   refine sd rfl (yl_indexAddrN Try.un63 Try.ty152 rfl rfl rfl eA51 (by first | omega | assumption | (simp only [IntKind.wrap_i64] at *; omega)) (sd rfl (yl_fieldAddr Try.fd152_0 rfl rfl ?_)))
   have hrg52 := OwnL.rng q50 (i := k3) (by first | omega | assumption | (simp only [IntKind.wrap_i64] at *; omega)) eb51 (by rw [eA51]; rfl)
   refine SeqR.u rfl rfl (yl_storeF (off := eo51) (i := k3) (d := 0) (dx := d_Idx) (x' := (⟨(l_markText x26), (x27.getD k3 d_Idx).Col, (x27.getD k3 d_Idx).Stage⟩ : DIdx)) (vs := [.string (bs ((l_markText x26)))]) Try.ty9 rfl q50 eA51 rfl rfl rfl rfl rfl (by first | omega | assumption | (simp only [IntKind.wrap_i64] at *; omega)) (Nat.le_of_ble_eq_true rfl) rfl rfl ?_)
   intro w53 hB54 hO55
   have hO55z := hO55.size
   refine SeqR.done (tn (CW.seq (CW.region (sd rfl (yl_move rfl rfl (sd rfl (yl_add rfl rfl rfl (sd rfl (yl_assign rfl rfl (SeqR.done (tn ?_)))))))))))
   refine CW.seq (CW.region (sd rfl (yl_move rfl rfl (sd rfl (yl_move rfl rfl (sd rfl (yl_move rfl rfl ?_)))))))
   obtain ⟨eb57, eo57, ec57, eA57, eS57, ebl57, el57, eR57, eC57⟩ := RdS.atD (OwnL.rd good_Idx hB54) d_Idx (i := k3) (by first | omega | assumption)
   obtain rfl := eR57
   have eC57 : Cells w53 eb57 (eo57 + k3 * 3) [.string (bs (((x27.set k3 (⟨(l_markText x26), (x27.getD k3 d_Idx).Col, (x27.getD k3 d_Idx).Stage⟩ : DIdx)).getD k3 d_Idx).Name)), .int .i64 (((x27.set k3 (⟨(l_markText x26), (x27.getD k3 d_Idx).Col, (x27.getD k3 d_Idx).Stage⟩ : DIdx)).getD k3 d_Idx).Col), .int .i64 (((x27.set k3 (⟨(l_markText x26), (x27.getD k3 d_Idx).Col, (x27.getD k3 d_Idx).Stage⟩ : DIdx)).getD k3 d_Idx).Stage)] := eC57
   refine sd rfl (yl_indexAddrN Try.un63 Try.ty152 rfl rfl rfl eA57 (by first | omega | assumption | (simp only [IntKind.wrap_i64] at *; omega)) (sd rfl (yl_fieldAddr Try.fd152_1 rfl rfl ?_)))
   have hrg58 := OwnL.rng hB54 (i := k3) (by first | omega | assumption | (simp only [IntKind.wrap_i64] at *; omega)) eb57 (by rw [eA57]; rfl)
   refine SeqR.u rfl rfl (yl_storeF (off := eo57) (i := k3) (d := 1) (dx := d_Idx) (x' := (⟨((x27.set k3 (⟨(l_markText x26), (x27.getD k3 d_Idx).Col, (x27.getD k3 d_Idx).Stage⟩ : DIdx)).getD k3 d_Idx).Name, IntKind.wrap .i64 (x26 + 1), ((x27.set k3 (⟨(l_markText x26), (x27.getD k3 d_Idx).Col, (x27.getD k3 d_Idx).Stage⟩ : DIdx)).getD k3 d_Idx).Stage⟩ : DIdx)) (vs := [.int .i64 (IntKind.wrap .i64 (x26 + 1))]) Try.ty3 rfl hB54 eA57 rfl rfl rfl rfl rfl (by first | omega | assumption | (simp only [IntKind.wrap_i64] at *; omega)) (Nat.le_of_ble_eq_true rfl) rfl rfl ?_)
   intro w59 hB60 hO61
   have hO61z := hO61.size
   refine SeqR.done (tn (CW.seq (CW.region (sd rfl (yl_move rfl rfl (sd rfl (yl_add rfl rfl rfl (sd rfl (yl_assign rfl rfl (SeqR.done (tn ?_)))))))))))
   refine CW.seq (CW.region (sd rfl (yl_move rfl rfl (sd rfl (yl_move rfl rfl (sd rfl (yl_move rfl rfl ?_)))))))
   obtain ⟨eb63, eo63, ec63, eA63, eS63, ebl63, el63, eR63, eC63⟩ := RdS.atD (OwnL.rd good_Idx hB60) d_Idx (i := k3) (by first | omega | assumption)
   obtain rfl := eR63
   have eC63 : Cells w59 eb63 (eo63 + k3 * 3) [.string (bs ((((x27.set k3 (⟨(l_markText x26), (x27.getD k3 d_Idx).Col, (x27.getD k3 d_Idx).Stage⟩ : DIdx)).set k3 (⟨((x27.set k3 (⟨(l_markText x26), (x27.getD k3 d_Idx).Col, (x27.getD k3 d_Idx).Stage⟩ : DIdx)).getD k3 d_Idx).Name, IntKind.wrap .i64 (x26 + 1), ((x27.set k3 (⟨(l_markText x26), (x27.getD k3 d_Idx).Col, (x27.getD k3 d_Idx).Stage⟩ : DIdx)).getD k3 d_Idx).Stage⟩ : DIdx)).getD k3 d_Idx).Name)), .int .i64 ((((x27.set k3 (⟨(l_markText x26), (x27.getD k3 d_Idx).Col, (x27.getD k3 d_Idx).Stage⟩ : DIdx)).set k3 (⟨((x27.set k3 (⟨(l_markText x26), (x27.getD k3 d_Idx).Col, (x27.getD k3 d_Idx).Stage⟩ : DIdx)).getD k3 d_Idx).Name, IntKind.wrap .i64 (x26 + 1), ((x27.set k3 (⟨(l_markText x26), (x27.getD k3 d_Idx).Col, (x27.getD k3 d_Idx).Stage⟩ : DIdx)).getD k3 d_Idx).Stage⟩ : DIdx)).getD k3 d_Idx).Col), .int .i64 ((((x27.set k3 (⟨(l_markText x26), (x27.getD k3 d_Idx).Col, (x27.getD k3 d_Idx).Stage⟩ : DIdx)).set k3 (⟨((x27.set k3 (⟨(l_markText x26), (x27.getD k3 d_Idx).Col, (x27.getD k3 d_Idx).Stage⟩ : DIdx)).getD k3 d_Idx).Name, IntKind.wrap .i64 (x26 + 1), ((x27.set k3 (⟨(l_markText x26), (x27.getD k3 d_Idx).Col, (x27.getD k3 d_Idx).Stage⟩ : DIdx)).getD k3 d_Idx).Stage⟩ : DIdx)).getD k3 d_Idx).Stage)] := eC63
   refine sd rfl (yl_indexAddrN Try.un63 Try.ty152 rfl rfl rfl eA63 (by first | omega | assumption | (simp only [IntKind.wrap_i64] at *; omega)) (sd rfl (yl_fieldAddr Try.fd152_2 rfl rfl ?_)))
   have hrg64 := OwnL.rng hB60 (i := k3) (by first | omega | assumption | (simp only [IntKind.wrap_i64] at *; omega)) eb63 (by rw [eA63]; rfl)
   refine SeqR.u rfl rfl (yl_storeF (off := eo63) (i := k3) (d := 2) (dx := d_Idx) (x' := (⟨(((x27.set k3 (⟨(l_markText x26), (x27.getD k3 d_Idx).Col, (x27.getD k3 d_Idx).Stage⟩ : DIdx)).set k3 (⟨((x27.set k3 (⟨(l_markText x26), (x27.getD k3 d_Idx).Col, (x27.getD k3 d_Idx).Stage⟩ : DIdx)).getD k3 d_Idx).Name, IntKind.wrap .i64 (x26 + 1), ((x27.set k3 (⟨(l_markText x26), (x27.getD k3 d_Idx).Col, (x27.getD k3 d_Idx).Stage⟩ : DIdx)).getD k3 d_Idx).Stage⟩ : DIdx)).getD k3 d_Idx).Name, (((x27.set k3 (⟨(l_markText x26), (x27.getD k3 d_Idx).Col, (x27.getD k3 d_Idx).Stage⟩ : DIdx)).set k3 (⟨((x27.set k3 (⟨(l_markText x26), (x27.getD k3 d_Idx).Col, (x27.getD k3 d_Idx).Stage⟩ : DIdx)).getD k3 d_Idx).Name, IntKind.wrap .i64 (x26 + 1), ((x27.set k3 (⟨(l_markText x26), (x27.getD k3 d_Idx).Col, (x27.getD k3 d_Idx).Stage⟩ : DIdx)).getD k3 d_Idx).Stage⟩ : DIdx)).getD k3 d_Idx).Col, IntKind.wrap .i64 ((IntKind.wrap .i64 (x26 + 1)) + 1)⟩ : DIdx)) (vs := [.int .i64 (IntKind.wrap .i64 ((IntKind.wrap .i64 (x26 + 1)) + 1))]) Try.ty3 rfl hB60 eA63 rfl rfl rfl rfl rfl (by first | omega | assumption | (simp only [IntKind.wrap_i64] at *; omega)) (Nat.le_of_ble_eq_true rfl) rfl rfl ?_)
   intro w65 hB66 hO67
   have hO67z := hO67.size
   refine SeqR.done (tn (CW.region (sd rfl (yl_move rfl rfl (sd rfl (yl_add rfl rfl rfl (sd rfl (yl_assign rfl rfl (SeqR.done (bn (tn ?_)))))))))))
   refine CW.region (sd rfl (yl_move rfl rfl (sd rfl (yl_inc rfl rfl rfl (by omega) (sd rfl (yl_assign rfl rfl (SeqR.done (tn ?_))))))))
   have hB68 : B_l_markIdxS_0 p_a p_k k3 (x26, x27) = .cont (IntKind.wrap .i64 ((IntKind.wrap .i64 ((IntKind.wrap .i64 (x26 + 1)) + 1)) + 1), (((x27.set k3 (⟨(l_markText x26), (x27.getD k3 d_Idx).Col, (x27.getD k3 d_Idx).Stage⟩ : DIdx)).set k3 (⟨((x27.set k3 (⟨(l_markText x26), (x27.getD k3 d_Idx).Col, (x27.getD k3 d_Idx).Stage⟩ : DIdx)).getD k3 d_Idx).Name, IntKind.wrap .i64 (x26 + 1), ((x27.set k3 (⟨(l_markText x26), (x27.getD k3 d_Idx).Col, (x27.getD k3 d_Idx).Stage⟩ : DIdx)).getD k3 d_Idx).Stage⟩ : DIdx)).set k3 (⟨(((x27.set k3 (⟨(l_markText x26), (x27.getD k3 d_Idx).Col, (x27.getD k3 d_Idx).Stage⟩ : DIdx)).set k3 (⟨((x27.set k3 (⟨(l_markText x26), (x27.getD k3 d_Idx).Col, (x27.getD k3 d_Idx).Stage⟩ : DIdx)).getD k3 d_Idx).Name, IntKind.wrap .i64 (x26 + 1), ((x27.set k3 (⟨(l_markText x26), (x27.getD k3 d_Idx).Col, (x27.getD k3 d_Idx).Stage⟩ : DIdx)).getD k3 d_Idx).Stage⟩ : DIdx)).getD k3 d_Idx).Name, (((x27.set k3 (⟨(l_markText x26), (x27.getD k3 d_Idx).Col, (x27.getD k3 d_Idx).Stage⟩ : DIdx)).set k3 (⟨((x27.set k3 (⟨(l_markText x26), (x27.getD k3 d_Idx).Col, (x27.getD k3 d_Idx).Stage⟩ : DIdx)).getD k3 d_Idx).Name, IntKind.wrap .i64 (x26 + 1), ((x27.set k3 (⟨(l_markText x26), (x27.getD k3 d_Idx).Col, (x27.getD k3 d_Idx).Stage⟩ : DIdx)).getD k3 d_Idx).Stage⟩ : DIdx)).getD k3 d_Idx).Col, IntKind.wrap .i64 ((IntKind.wrap .i64 (x26 + 1)) + 1)⟩ : DIdx))) := by simp only [B_l_markIdxS_0, cond_true, cond_false, loopE_done, loopE_ret]
   exact ⟨p_a.length - (k3 + 1), by omega, k3 + 1, IntKind.wrap .i64 ((IntKind.wrap .i64 ((IntKind.wrap .i64 (x26 + 1)) + 1)) + 1), (((x27.set k3 (⟨(l_markText x26), (x27.getD k3 d_Idx).Col, (x27.getD k3 d_Idx).Stage⟩ : DIdx)).set k3 (⟨((x27.set k3 (⟨(l_markText x26), (x27.getD k3 d_Idx).Col, (x27.getD k3 d_Idx).Stage⟩ : DIdx)).getD k3 d_Idx).Name, IntKind.wrap .i64 (x26 + 1), ((x27.set k3 (⟨(l_markText x26), (x27.getD k3 d_Idx).Col, (x27.getD k3 d_Idx).Stage⟩ : DIdx)).getD k3 d_Idx).Stage⟩ : DIdx)).set k3 (⟨(((x27.set k3 (⟨(l_markText x26), (x27.getD k3 d_Idx).Col, (x27.getD k3 d_Idx).Stage⟩ : DIdx)).set k3 (⟨((x27.set k3 (⟨(l_markText x26), (x27.getD k3 d_Idx).Col, (x27.getD k3 d_Idx).Stage⟩ : DIdx)).getD k3 d_Idx).Name, IntKind.wrap .i64 (x26 + 1), ((x27.set k3 (⟨(l_markText x26), (x27.getD k3 d_Idx).Col, (x27.getD k3 d_Idx).Stage⟩ : DIdx)).getD k3 d_Idx).Stage⟩ : DIdx)).getD k3 d_Idx).Name, (((x27.set k3 (⟨(l_markText x26), (x27.getD k3 d_Idx).Col, (x27.getD k3 d_Idx).Stage⟩ : DIdx)).set k3 (⟨((x27.set k3 (⟨(l_markText x26), (x27.getD k3 d_Idx).Col, (x27.getD k3 d_Idx).Stage⟩ : DIdx)).getD k3 d_Idx).Name, IntKind.wrap .i64 (x26 + 1), ((x27.set k3 (⟨(l_markText x26), (x27.getD k3 d_Idx).Col, (x27.getD k3 d_Idx).Stage⟩ : DIdx)).getD k3 d_Idx).Stage⟩ : DIdx)).getD k3 d_Idx).Col, IntKind.wrap .i64 ((IntKind.wrap .i64 (x26 + 1)) + 1)⟩ : DIdx)), rfl, hlt45, (by omega), rfl, rfl, rfl, hB66, (Mut.only (Mut.only (Mut.only (Mut.ex hf41 hE48) hO55 (by simp only [InR, or_false]; omega)) hO61 (by simp only [InR, or_false]; omega)) hO67 (by simp only [InR, or_false]; omega)), (by first | omega | assumption | (simp only [IntKind.wrap_i64] at *; omega)), (loopM.cont hlt45 hB68).symm.trans hI35⟩
  ·refine CW.seq (CW.seq (CW.region (sd rfl (yl_move rfl rfl (sd rfl (yl_move rfl rfl (sd rfl (yl_len Try.un63 rfl rfl (sd rfl (yl_lss rfl rfl rfl (SeqR.done (tn ?_))))))))))))
   refine CW.cond_f rfl (lt_f hlt45) (CW.exit (tx (tx ?_)))
   have hL73 : loopM (B_l_markIdxS_0 p_a p_k) (p_a.length - 0) 0 (p_k, p_a) = .done (x26, x27) := hI35.symm.trans (loopM.stop hlt45)
   refine bx (tn (CW.seq (CW.region (sd rfl (yl_move rfl rfl (sd rfl (yl_assign rfl rfl (SeqR.done (tn (CW.ret ?_))))))))))
   refine rr rfl (.cons rfl .nil) ?_
   have hM74 : (l_markIdxS p_a p_k) = ((x26, x27)) := by simp only [l_markIdxS, hL73, cond_true, cond_false, loopE_done, loopE_ret]
   rw [hM74]
   exact ⟨rfl, hf40, hf41⟩
set_option maxRecDepth 100000 in
set_option maxHeartbeats 2000000 in
theorem c_l_markTable {A1 : Option Addr} {c1 : Nat} {lo1 hi1 : Nat} {A2 : Option Addr} {c2 : Nat} {lo2 hi2 : Nat} {w : World} (p_a : DTable) (p_k : Int) (h1 : OwnL w lo1 hi1 9 1 (RF e_Str) A1 p_a.Cols.length c1 p_a.Cols) (h2 : OwnL w lo2 hi2 152 3 (RF e_Idx) A2 p_a.Idxs.length c2 p_a.Idxs) (hrn3 : (0 ≤ lo1 ∧ lo1 ≤ hi1 ∧ hi1 ≤ w.heap.size)) (hrn4 : (0 ≤ lo2 ∧ lo2 ≤ hi2 ∧ hi2 ≤ w.heap.size)) (hrn5 : (hi1 ≤ lo2 ∨ hi2 ≤ lo1)) (pre0 : p_k ≤ 9223372036854775807) : Cal Try.prog 41 #[.agg #[.string (bs (p_a.Name)), .slice A1 p_a.Cols.length c1, .slice A2 p_a.Idxs.length c2], .int .i64 (p_k)] w fun v w' => v = .int .i64 ((l_markTable p_a p_k).1) ∧ OwnL w' lo1 hi1 9 1 (RF e_Str) A1 p_a.Cols.length c1 ((l_markTable p_a p_k).2.Cols) ∧ OwnL w' lo2 hi2 152 3 (RF e_Idx) A2 p_a.Idxs.length c2 ((l_markTable p_a p_k).2.Idxs) ∧ Mut [(lo1, hi1), (lo2, hi2)] w w' := by
 refine Cal.of (vs := [.agg #[.string (bs (p_a.Name)), .slice A1 p_a.Cols.length c1, .slice A2 p_a.Idxs.length c2], .int .i64 (p_k)]) Try.func41 rfl Try.ntmps41 rfl (CW.seq (CW.region (sd rfl (yl_box (cs := [.string (bs (p_a.Name)), .slice A1 p_a.Cols.length c1, .slice A2 p_a.Idxs.length c2]) rfl rfl rfl ?_))))
 intro b6 w7 hs8 hz9 hB10 hE11
 refine sd rfl (yl_assign rfl rfl (SeqR.done (tn (CW.seq (CW.region (sd rfl (yl_fieldAddr Try.fd65_1 rfl rfl (sd rfl (yl_load1 Try.ty52 rfl rfl ((hB10.cell 1).trans rfl) (sd rfl (yl_move rfl rfl (sd rfl (yl_call Try.en54 rfl (opvs_cons rfl (opvs_cons rfl opvs_nil)) (Cal.mono (c_l_markStringS p_a.Cols p_k (OwnL.ex good_Str h1 hE11) (by omega) (by first | omega | assumption | (simp only [IntKind.wrap_i64] at *; omega))) ?_))))))))))))))
 rintro v14 w13 ⟨rfl, h16, hm15⟩
 have hm15z := Mut.size hm15
 have hrf17 := rf_markStringS p_a.Cols p_k (by first | omega | assumption | (simp only [IntKind.wrap_i64] at *; omega))
 refine sd rfl (yl_assign rfl rfl (SeqR.done (tn (CW.seq (CW.region (sd rfl (yl_fieldAddr Try.fd65_2 rfl rfl (sd rfl (yl_load1 Try.ty63 rfl rfl (((Box.mut hB10 hm15 (fun k hk => by simp only [InR, or_false] at hk; omega)).cell 2).trans rfl) (sd rfl (yl_move rfl rfl (sd rfl (yl_call Try.en113 rfl (opvs_cons rfl (opvs_cons rfl opvs_nil)) (Cal.mono (c_l_markIdxS p_a.Idxs ((l_markStringS p_a.Cols p_k).1) (OwnL.mut good_Idx (OwnL.ex good_Idx h2 hE11) hm15 (fun k hk => by simp only [InR, or_false] at hk; omega)) (by omega) (by first | omega | assumption | (simp only [IntKind.wrap_i64] at *; omega))) ?_))))))))))))))
 rintro v22 w21 ⟨rfl, h24, hm23⟩
 have hm23z := Mut.size hm23
 have hrf25 := rf_markIdxS p_a.Idxs ((l_markStringS p_a.Cols p_k).1) (by first | omega | assumption | (simp only [IntKind.wrap_i64] at *; omega))
 refine sd rfl (yl_assign rfl rfl (SeqR.done (tn (CW.seq (CW.region (sd rfl (yl_move rfl rfl (sd rfl (yl_assign rfl rfl (SeqR.done (tn ?_)))))))))))
 refine CW.ret (rr rfl (.cons rfl .nil) ?_)
 have hM26 : (l_markTable p_a p_k) = (((l_markIdxS p_a.Idxs ((l_markStringS p_a.Cols p_k).1)).1, (⟨p_a.Name, (l_markStringS p_a.Cols p_k).2, (l_markIdxS p_a.Idxs ((l_markStringS p_a.Cols p_k).1)).2⟩ : DTable))) := by simp only [l_markTable, cond_true, cond_false, loopE_done, loopE_ret]
 rw [hM26]
 exact ⟨rfl, (OwnL.mut good_Str h16 hm23 (fun k hk => by simp only [InR, or_false] at hk; omega)), h24, (Mut.mut (Mut.mut (Mut.ex (Mut.refl (l := [(lo1, hi1), (lo2, hi2)]) w) hE11) hm15 (fun k hk => by simp only [InR, or_false] at hk ⊢; omega)) hm23 (fun k hk => by simp only [InR, or_false] at hk ⊢; omega))⟩
set_option maxRecDepth 100000 in
set_option maxHeartbeats 2000000 in
theorem c_l_markRow {A1 : Option Addr} {c1 : Nat} {lo1 hi1 : Nat} {w : World} (p_a : DRow) (p_k : Int) (h1 : OwnL w lo1 hi1 9 1 (RF e_Str) A1 p_a.Vals.length c1 p_a.Vals) (hrn2 : (0 ≤ lo1 ∧ lo1 ≤ hi1 ∧ hi1 ≤ w.heap.size)) (pre0 : p_k ≤ 9223372036854775807) : Cal Try.prog 42 #[.agg #[.slice A1 p_a.Vals.length c1], .int .i64 (p_k)] w fun v w' => v = .int .i64 ((l_markRow p_a p_k).1) ∧ OwnL w' lo1 hi1 9 1 (RF e_Str) A1 p_a.Vals.length c1 ((l_markRow p_a p_k).2.Vals) ∧ Mut [(lo1, hi1)] w w' := by
 refine Cal.of (vs := [.agg #[.slice A1 p_a.Vals.length c1], .int .i64 (p_k)]) Try.func42 rfl Try.ntmps42 rfl (CW.seq (CW.region (sd rfl (yl_box (cs := [.slice A1 p_a.Vals.length c1]) rfl rfl rfl ?_))))
 intro b3 w4 hs5 hz6 hB7 hE8
 refine sd rfl (yl_assign rfl rfl (SeqR.done (tn (CW.seq (CW.region (sd rfl (yl_fieldAddr Try.fd67_0 rfl rfl (sd rfl (yl_load1 Try.ty52 rfl rfl ((hB7.cell 0).trans rfl) (sd rfl (yl_move rfl rfl (sd rfl (yl_call Try.en54 rfl (opvs_cons rfl (opvs_cons rfl opvs_nil)) (Cal.mono (c_l_markStringS p_a.Vals p_k (OwnL.ex good_Str h1 hE8) (by omega) (by first | omega | assumption | (simp only [IntKind.wrap_i64] at *; omega))) ?_))))))))))))))
 rintro v11 w10 ⟨rfl, h13, hm12⟩
 have hm12z := Mut.size hm12
 have hrf14 := rf_markStringS p_a.Vals p_k (by first | omega | assumption | (simp only [IntKind.wrap_i64] at *; omega))
 refine sd rfl (yl_assign rfl rfl (SeqR.done (tn (CW.seq (CW.region (sd rfl (yl_move rfl rfl (sd rfl (yl_assign rfl rfl (SeqR.done (tn ?_)))))))))))
 refine CW.ret (rr rfl (.cons rfl .nil) ?_)
 have hM15 : (l_markRow p_a p_k) = (((l_markStringS p_a.Vals p_k).1, (⟨(l_markStringS p_a.Vals p_k).2⟩ : DRow))) := by simp only [l_markRow, cond_true, cond_false, loopE_done, loopE_ret]
 rw [hM15]
 exact ⟨rfl, h13, (Mut.mut (Mut.ex (Mut.refl (l := [(lo1, hi1)]) w) hE8) hm12 (fun k hk => by simp only [InR, or_false] at hk ⊢; omega))⟩
set_option maxRecDepth 100000 in
set_option maxHeartbeats 2000000 in
theorem c_l_markOpS {A1 : Option Addr} {c1 : Nat} {lo1 hi1 : Nat} {w : World} (p_a : List DOp) (p_k : Int) (h1 : OwnL w lo1 hi1 163 4 (RF e_Op) A1 p_a.length c1 p_a) (hrn2 : (0 ≤ lo1 ∧ lo1 ≤ hi1 ∧ hi1 ≤ w.heap.size)) (pre0 : p_k ≤ 9223372036854775807) : Cal Try.prog 43 #[.slice A1 p_a.length c1, .int .i64 (p_k)] w fun v w' => v = .int .i64 ((l_markOpS p_a p_k).1) ∧ OwnL w' lo1 hi1 163 4 (RF e_Op) A1 p_a.length c1 ((l_markOpS p_a p_k).2) ∧ Mut [(lo1, hi1)] w w' := by
 refine Cal.of (vs := [.slice A1 p_a.length c1, .int .i64 (p_k)]) Try.func43 rfl Try.ntmps43 rfl (CW.seq (CW.region (sd rfl (yl_assign rfl rfl (SeqR.done (tn (CW.seq (CW.seq (CW.region ?_)))))))))
 refine sd rfl (yl_assign rfl rfl (SeqR.done (tn (CW.block (CW.loop (fun m37 L38 w39 => ∃ (k3 : Nat) (x35 : Int) (x36 : List DOp), m37 = p_a.length - k3 ∧ k3 ≤ p_a.length ∧ w.heap.size ≤ w39.heap.size ∧ lkp L38 0 = some (.slice A1 p_a.length c1) ∧ lkp L38 1 = some (.int .i64 (x35)) ∧ lkp L38 5 = some (.int .i64 ((k3 : Int))) ∧ OwnL w39 lo1 hi1 163 4 (RF e_Op) A1 p_a.length c1 x36 ∧ Mut [(lo1, hi1)] w w39 ∧ x35 ≤ 9223372036854775807 ∧ loopM (B_l_markOpS_0 p_a p_k) (p_a.length - k3) k3 (x35, x36) = loopM (B_l_markOpS_0 p_a p_k) (p_a.length - 0) 0 (p_k, p_a)) (p_a.length - 0) ?_ ?_)))))
 ·exact ⟨0, p_k, p_a, rfl, (by omega), Nat.le_refl _, rfl, rfl, rfl, h1, (Mut.refl (l := [(lo1, hi1)]) w), (by first | omega | assumption | (simp only [IntKind.wrap_i64] at *; omega)), rfl⟩
 ·rintro m40 L41 w42 ⟨k3, x35, x36, rfl, hk43, hsz45, hl46, hl47, hl48, hf49, hf50, hv51, hI44⟩
  refine CW.sub (Sub.cons hl46 (Sub.cons hl47 (Sub.cons hl48 (Sub.nil _)))) ?_
  have hf50z := Mut.size hf50
  have hbg52 := RdS.big (OwnL.rd good_Op hf49)
  rcases Nat.lt_or_ge k3 p_a.length with hlt54 | hlt54
  ·refine CW.seq (CW.seq (CW.region (sd rfl (yl_move rfl rfl (sd rfl (yl_move rfl rfl (sd rfl (yl_len Try.un60 rfl rfl (sd rfl (yl_lss rfl rfl rfl (SeqR.done (tn ?_))))))))))))
   refine CW.cond_t rfl (lt_t hlt54) (CW.skip (tn (CW.seq (CW.block (CW.seq (CW.region (sd rfl (yl_move rfl rfl (sd rfl (yl_move rfl rfl ?_))))))))))
   refine sd rfl (yl_move rfl rfl ?_)
   obtain ⟨eb56, eo56, ec56, eA56, eS56, ebl56, el56, eR56, eC56⟩ := RdS.atD (OwnL.rd good_Op hf49) d_Op (i := k3) (by first | omega | assumption)
   obtain rfl := eR56
   have eC56 : Cells w42 eb56 (eo56 + k3 * 4) [.int .i64 ((x36.getD k3 d_Op).Kind), .string (bs ((x36.getD k3 d_Op).Key)), .string (bs ((x36.getD k3 d_Op).Val)), .int .i64 ((x36.getD k3 d_Op).By)] := eC56
   refine sd rfl (yl_indexAddrN Try.un60 Try.ty163 rfl rfl rfl eA56 (by first | omega | assumption | (simp only [IntKind.wrap_i64] at *; omega)) (sd rfl (yl_fieldAddr Try.fd163_0 rfl rfl ?_)))
   have hrg57 := OwnL.rng hf49 (i := k3) (by first | omega | assumption | (simp only [IntKind.wrap_i64] at *; omega)) eb56 (by rw [eA56]; rfl)
   refine SeqR.u rfl rfl (yl_storeF (off := eo56) (i := k3) (d := 0) (dx := d_Op) (x' := (⟨x35, (x36.getD k3 d_Op).Key, (x36.getD k3 d_Op).Val, (x36.getD k3 d_Op).By⟩ : DOp)) (vs := [.int .i64 (x35)]) Try.ty3 rfl hf49 eA56 rfl rfl rfl rfl rfl (by first | omega | assumption | (simp only [IntKind.wrap_i64] at *; omega)) (Nat.le_of_ble_eq_true rfl) rfl rfl ?_)
   intro w58 hB59 hO60
   have hO60z := hO60.size
   refine SeqR.done (tn (CW.seq (CW.region (sd rfl (yl_move rfl rfl (sd rfl (yl_add rfl rfl rfl (sd rfl (yl_assign rfl rfl (SeqR.done (tn ?_)))))))))))
   refine CW.seq (CW.region (sd rfl (yl_move rfl rfl (sd rfl (yl_move rfl rfl (sd rfl (yl_move rfl rfl (sd rfl (yl_call Try.en95 rfl (opvs_cons rfl opvs_nil) (Cal.mono (c_l_markText (IntKind.wrap .i64 (x35 + 1)) (by first | omega | assumption | (simp only [IntKind.wrap_i64] at *; omega))) ?_))))))))))
   rintro v62 w61 ⟨rfl, hE63⟩
   have hE63z := Ex.size hE63
   have q65 := OwnL.ex good_Op hB59 hE63
   obtain ⟨eb66, eo66, ec66, eA66, eS66, ebl66, el66, eR66, eC66⟩ := RdS.atD (OwnL.rd good_Op q65) d_Op (i := k3) (by first | omega | assumption)
   obtain rfl := eR66
   have eC66 : Cells w61 eb66 (eo66 + k3 * 4) [.int .i64 (((x36.set k3 (⟨x35, (x36.getD k3 d_Op).Key, (x36.getD k3 d_Op).Val, (x36.getD k3 d_Op).By⟩ : DOp)).getD k3 d_Op).Kind), .string (bs (((x36.set k3 (⟨x35, (x36.getD k3 d_Op).Key, (x36.getD k3 d_Op).Val, (x36.getD k3 d_Op).By⟩ : DOp)).getD k3 d_Op).Key)), .string (bs (((x36.set k3 (⟨x35, (x36.getD k3 d_Op).Key, (x36.getD k3 d_Op).Val, (x36.getD k3 d_Op).By⟩ : DOp)).getD k3 d_Op).Val)), .int .i64 (((x36.set k3 (⟨x35, (x36.getD k3 d_Op).Key, (x36.getD k3 d_Op).Val, (x36.getD k3 d_Op).By⟩ : DOp)).getD k3 d_Op).By)] := eC66
   refine sd rfl (yl_indexAddrN Try.un60 Try.ty163 rfl rfl rfl eA66 (by first | omega | assumption | (simp only [IntKind.wrap_i64] at *; omega)) (sd rfl (yl_fieldAddr Try.fd163_1 rfl rfl ?_)))
   have hrg67 := OwnL.rng q65 (i := k3) (by first | omega | assumption | (simp only [IntKind.wrap_i64] at *; omega)) eb66 (by rw [eA66]; rfl)
   refine SeqR.u rfl rfl (yl_storeF (off := eo66) (i := k3) (d := 1) (dx := d_Op) (x' := (⟨((x36.set k3 (⟨x35, (x36.getD k3 d_Op).Key, (x36.getD k3 d_Op).Val, (x36.getD k3 d_Op).By⟩ : DOp)).getD k3 d_Op).Kind, (l_markText (IntKind.wrap .i64 (x35 + 1))), ((x36.set k3 (⟨x35, (x36.getD k3 d_Op).Key, (x36.getD k3 d_Op).Val, (x36.getD k3 d_Op).By⟩ : DOp)).getD k3 d_Op).Val, ((x36.set k3 (⟨x35, (x36.getD k3 d_Op).Key, (x36.getD k3 d_Op).Val, (x36.getD k3 d_Op).By⟩ : DOp)).getD k3 d_Op).By⟩ : DOp)) (vs := [.string (bs ((l_markText (IntKind.wrap .i64 (x35 + 1)))))]) Try.ty9 rfl q65 eA66 rfl rfl rfl rfl rfl (by first | omega | assumption | (simp only [IntKind.wrap_i64] at *; omega)) (Nat.le_of_ble_eq_true rfl) rfl rfl ?_)
   intro w68 hB69 hO70
   have hO70z := hO70.size
   refine SeqR.done (tn (CW.seq (CW.region (sd rfl (yl_move rfl rfl (sd rfl (yl_add rfl rfl rfl (sd rfl (yl_assign rfl rfl (SeqR.done (tn ?_)))))))))))
   refine CW.seq (CW.region (sd rfl (yl_move rfl rfl (sd rfl (yl_move rfl rfl (sd rfl (yl_move rfl rfl (sd rfl (yl_call Try.en95 rfl (opvs_cons rfl opvs_nil) (Cal.mono (c_l_markText (IntKind.wrap .i64 ((IntKind.wrap .i64 (x35 + 1)) + 1)) (by first | omega | assumption | (simp only [IntKind.wrap_i64] at *; omega))) ?_))))))))))
   rintro v72 w71 ⟨rfl, hE73⟩
   have hE73z := Ex.size hE73
   have q75 := OwnL.ex good_Op hB69 hE73
   obtain ⟨eb76, eo76, ec76, eA76, eS76, ebl76, el76, eR76, eC76⟩ := RdS.atD (OwnL.rd good_Op q75) d_Op (i := k3) (by first | omega | assumption)
   obtain rfl := eR76
   have eC76 : Cells w71 eb76 (eo76 + k3 * 4) [.int .i64 ((((x36.set k3 (⟨x35, (x36.getD k3 d_Op).Key, (x36.getD k3 d_Op).Val, (x36.getD k3 d_Op).By⟩ : DOp)).set k3 (⟨((x36.set k3 (⟨x35, (x36.getD k3 d_Op).Key, (x36.getD k3 d_Op).Val, (x36.getD k3 d_Op).By⟩ : DOp)).getD k3 d_Op).Kind, (l_markText (IntKind.wrap .i64 (x35 + 1))), ((x36.set k3 (⟨x35, (x36.getD k3 d_Op).Key, (x36.getD k3 d_Op).Val, (x36.getD k3 d_Op).By⟩ : DOp)).getD k3 d_Op).Val, ((x36.set k3 (⟨x35, (x36.getD k3 d_Op).Key, (x36.getD k3 d_Op).Val, (x36.getD k3 d_Op).By⟩ : DOp)).getD k3 d_Op).By⟩ : DOp)).getD k3 d_Op).Kind), .string (bs ((((x36.set k3 (⟨x35, (x36.getD k3 d_Op).Key, (x36.getD k3 d_Op).Val, (x36.getD k3 d_Op).By⟩ : DOp)).set k3 (⟨((x36.set k3 (⟨x35, (x36.getD k3 d_Op).Key, (x36.getD k3 d_Op).Val, (x36.getD k3 d_Op).By⟩ : DOp)).getD k3 d_Op).Kind, (l_markText (IntKind.wrap .i64 (x35 + 1))), ((x36.set k3 (⟨x35, (x36.getD k3 d_Op).Key, (x36.getD k3 d_Op).Val, (x36.getD k3 d_Op).By⟩ : DOp)).getD k3 d_Op).Val, ((x36.set k3 (⟨x35, (x36.getD k3 d_Op).Key, (x36.getD k3 d_Op).Val, (x36.getD k3 d_Op).By⟩ : DOp)).getD k3 d_Op).By⟩ : DOp)).getD k3 d_Op).Key)), .string (bs ((((x36.set k3 (⟨x35, (x36.getD k3 d_Op).Key, (x36.getD k3 d_Op).Val, (x36.getD k3 d_Op).By⟩ : DOp)).set k3 (⟨((x36.set k3 (⟨x35, (x36.getD k3 d_Op).Key, (x36.getD k3 d_Op).Val, (x36.getD k3 d_Op).By⟩ : DOp)).getD k3 d_Op).Kind, (l_markText (IntKind.wrap .i64 (x35 + 1))), ((x36.set k3 (⟨x35, (x36.getD k3 d_Op).Key, (x36.getD k3 d_Op).Val, (x36.getD k3 d_Op).By⟩ : DOp)).getD k3 d_Op).Val, ((x36.set k3 (⟨x35, (x36.getD k3 d_Op).Key, (x36.getD k3 d_Op).Val, (x36.getD k3 d_Op).By⟩ : DOp)).getD k3 d_Op).By⟩ : DOp)).getD k3 d_Op).Val)), .int .i64 ((((x36.set k3 (⟨x35, (x36.getD k3 d_Op).Key, (x36.getD k3 d_Op).Val, (x36.getD k3 d_Op).By⟩ : DOp)).set k3 (⟨((x36.set k3 (⟨x35, (x36.getD k3 d_Op).Key, (x36.getD k3 d_Op).Val, (x36.getD k3 d_Op).By⟩ : DOp)).getD k3 d_Op).Kind, (l_markText (IntKind.wrap .i64 (x35 + 1))), ((x36.set k3 (⟨x35, (x36.getD k3 d_Op).Key, (x36.getD k3 d_Op).Val, (x36.getD k3 d_Op).By⟩ : DOp)).getD k3 d_Op).Val, ((x36.set k3 (⟨x35, (x36.getD k3 d_Op).Key, (x36.getD k3 d_Op).Val, (x36.getD k3 d_Op).By⟩ : DOp)).getD k3 d_Op).By⟩ : DOp)).getD k3 d_Op).By)] := eC76
   refine sd rfl (yl_indexAddrN Try.un60 Try.ty163 rfl rfl rfl eA76 (by first | omega | assumption | (simp only [IntKind.wrap_i64] at *; omega)) (sd rfl (yl_fieldAddr Try.fd163_2 rfl rfl ?_)))
   have hrg77 := OwnL.rng q75 (i := k3) (by first | omega | assumption | (simp only [IntKind.wrap_i64] at *; omega)) eb76 (by rw [eA76]; rfl)
   refine SeqR.u rfl rfl (yl_storeF (off := eo76) (i := k3) (d := 2) (dx := d_Op) (x' := (⟨(((x36.set k3 (⟨x35, (x36.getD k3 d_Op).Key, (x36.getD k3 d_Op).Val, (x36.getD k3 d_Op).By⟩ : DOp)).set k3 (⟨((x36.set k3 (⟨x35, (x36.getD k3 d_Op).Key, (x36.getD k3 d_Op).Val, (x36.getD k3 d_Op).By⟩ : DOp)).getD k3 d_Op).Kind, (l_markText (IntKind.wrap .i64 (x35 + 1))), ((x36.set k3 (⟨x35, (x36.getD k3 d_Op).Key, (x36.getD k3 d_Op).Val, (x36.getD k3 d_Op).By⟩ : DOp)).getD k3 d_Op).Val, ((x36.set k3 (⟨x35, (x36.getD k3 d_Op).Key, (x36.getD k3 d_Op).Val, (x36.getD k3 d_Op).By⟩ : DOp)).getD k3 d_Op).By⟩ : DOp)).getD k3 d_Op).Kind, (((x36.set k3 (⟨x35, (x36.getD k3 d_Op).Key, (x36.getD k3 d_Op).Val, (x36.getD k3 d_Op).By⟩ : DOp)).set k3 (⟨((x36.set k3 (⟨x35, (x36.getD k3 d_Op).Key, (x36.getD k3 d_Op).Val, (x36.getD k3 d_Op).By⟩ : DOp)).getD k3 d_Op).Kind, (l_markText (IntKind.wrap .i64 (x35 + 1))), ((x36.set k3 (⟨x35, (x36.getD k3 d_Op).Key, (x36.getD k3 d_Op).Val, (x36.getD k3 d_Op).By⟩ : DOp)).getD k3 d_Op).Val, ((x36.set k3 (⟨x35, (x36.getD k3 d_Op).Key, (x36.getD k3 d_Op).Val, (x36.getD k3 d_Op).By⟩ : DOp)).getD k3 d_Op).By⟩ : DOp)).getD k3 d_Op).Key, (l_markText (IntKind.wrap .i64 ((IntKind.wrap .i64 (x35 + 1)) + 1))), (((x36.set k3 (⟨x35, (x36.getD k3 d_Op).Key, (x36.getD k3 d_Op).Val, (x36.getD k3 d_Op).By⟩ : DOp)).set k3 (⟨((x36.set k3 (⟨x35, (x36.getD k3 d_Op).Key, (x36.getD k3 d_Op).Val, (x36.getD k3 d_Op).By⟩ : DOp)).getD k3 d_Op).Kind, (l_markText (IntKind.wrap .i64 (x35 + 1))), ((x36.set k3 (⟨x35, (x36.getD k3 d_Op).Key, (x36.getD k3 d_Op).Val, (x36.getD k3 d_Op).By⟩ : DOp)).getD k3 d_Op).Val, ((x36.set k3 (⟨x35, (x36.getD k3 d_Op).Key, (x36.getD k3 d_Op).Val, (x36.getD k3 d_Op).By⟩ : DOp)).getD k3 d_Op).By⟩ : DOp)).getD k3 d_Op).By⟩ : DOp)) (vs := [.string (bs ((l_markText (IntKind.wrap .i64 ((IntKind.wrap .i64 (x35 + 1)) + 1)))))]) Try.ty9 rfl q75 eA76 rfl rfl rfl rfl rfl (by first | omega | assumption | (simp only [IntKind.wrap_i64] at *; omega)) (Nat.le_of_ble_eq_true rfl) rfl rfl ?_)
   intro w78 hB79 hO80
   have hO80z := hO80.size
   refine SeqR.done (tn (CW.seq (CW.region (sd rfl (yl_move rfl rfl (sd rfl (yl_add rfl rfl rfl (sd rfl (yl_assign rfl rfl (SeqR.done (tn ?_)))))))))))
   refine CW.seq (CW.region (sd rfl (yl_move rfl rfl (sd rfl (yl_move rfl rfl (sd rfl (yl_move rfl rfl ?_)))))))
   obtain ⟨eb82, eo82, ec82, eA82, eS82, ebl82, el82, eR82, eC82⟩ := RdS.atD (OwnL.rd good_Op hB79) d_Op (i := k3) (by first | omega | assumption)
   obtain rfl := eR82
   have eC82 : Cells w78 eb82 (eo82 + k3 * 4) [.int .i64 (((((x36.set k3 (⟨x35, (x36.getD k3 d_Op).Key, (x36.getD k3 d_Op).Val, (x36.getD k3 d_Op).By⟩ : DOp)).set k3 (⟨((x36.set k3 (⟨x35, (x36.getD k3 d_Op).Key, (x36.getD k3 d_Op).Val, (x36.getD k3 d_Op).By⟩ : DOp)).getD k3 d_Op).Kind, (l_markText (IntKind.wrap .i64 (x35 + 1))), ((x36.set k3 (⟨x35, (x36.getD k3 d_Op).Key, (x36.getD k3 d_Op).Val, (x36.getD k3 d_Op).By⟩ : DOp)).getD k3 d_Op).Val, ((x36.set k3 (⟨x35, (x36.getD k3 d_Op).Key, (x36.getD k3 d_Op).Val, (x36.getD k3 d_Op).By⟩ : DOp)).getD k3 d_Op).By⟩ : DOp)).set k3 (⟨(((x36.set k3 (⟨x35, (x36.getD k3 d_Op).Key, (x36.getD k3 d_Op).Val, (x36.getD k3 d_Op).By⟩ : DOp)).set k3 (⟨((x36.set k3 (⟨x35, (x36.getD k3 d_Op).Key, (x36.getD k3 d_Op).Val, (x36.getD k3 d_Op).By⟩ : DOp)).getD k3 d_Op).Kind, (l_markText (IntKind.wrap .i64 (x35 + 1))), ((x36.set k3 (⟨x35, (x36.getD k3 d_Op).Key, (x36.getD k3 d_Op).Val, (x36.getD k3 d_Op).By⟩ : DOp)).getD k3 d_Op).Val, ((x36.set k3 (⟨x35, (x36.getD k3 d_Op).Key, (x36.getD k3 d_Op).Val, (x36.getD k3 d_Op).By⟩ : DOp)).getD k3 d_Op).By⟩ : DOp)).getD k3 d_Op).Kind, (((x36.set k3 (⟨x35, (x36.getD k3 d_Op).Key, (x36.getD k3 d_Op).Val, (x36.getD k3 d_Op).By⟩ : DOp)).set k3 (⟨((x36.set k3 (⟨x35, (x36.getD k3 d_Op).Key, (x36.getD k3 d_Op).Val, (x36.getD k3 d_Op).By⟩ : DOp)).getD k3 d_Op).Kind, (l_markText (IntKind.wrap .i64 (x35 + 1))), ((x36.set k3 (⟨x35, (x36.getD k3 d_Op).Key, (x36.getD k3 d_Op).Val, (x36.getD k3 d_Op).By⟩ : DOp)).getD k3 d_Op).Val, ((x36.set k3 (⟨x35, (x36.getD k3 d_Op).Key, (x36.getD k3 d_Op).Val, (x36.getD k3 d_Op).By⟩ : DOp)).getD k3 d_Op).By⟩ : DOp)).getD k3 d_Op).Key, (l_markText (IntKind.wrap .i64 ((IntKind.wrap .i64 (x35 + 1)) + 1))), (((x36.set k3 (⟨x35, (x36.getD k3 d_Op).Key, (x36.getD k3 d_Op).Val, (x36.getD k3 d_Op).By⟩ : DOp)).set k3 (⟨((x36.set k3 (⟨x35, (x36.getD k3 d_Op).Key, (x36.getD k3 d_Op).Val, (x36.getD k3 d_Op).By⟩ : DOp)).getD k3 d_Op).Kind, (l_markText (IntKind.wrap .i64 (x35 + 1))), ((x36.set k3 (⟨x35, (x36.getD k3 d_Op).Key, (x36.getD k3 d_Op).Val, (x36.getD k3 d_Op).By⟩ : DOp)).getD k3 d_Op).Val, ((x36.set k3 (⟨x35, (x36.getD k3 d_Op).Key, (x36.getD k3 d_Op).Val, (x36.getD k3 d_Op).By⟩ : DOp)).getD k3 d_Op).By⟩ : DOp)).getD k3 d_Op).By⟩ : DOp)).getD k3 d_Op).Kind), .string (bs (((((x36.set k3 (⟨x35, (x36.getD k3 d_Op).Key, (x36.getD k3 d_Op).Val, (x36.getD k3 d_Op).By⟩ : DOp)).set k3 (⟨((x36.set k3 (⟨x35, (x36.getD k3 d_Op).Key, (x36.getD k3 d_Op).Val, (x36.getD k3 d_Op).By⟩ : DOp)).getD k3 d_Op).Kind, (l_markText (IntKind.wrap .i64 (x35 + 1))), ((x36.set k3 (⟨x35, (x36.getD k3 d_Op).Key, (x36.getD k3 d_Op).Val, (x36.getD k3 d_Op).By⟩ : DOp)).getD k3 d_Op).Val, ((x36.set k3 (⟨x35, (x36.getD k3 d_Op).Key, (x36.getD k3 d_Op).Val, (x36.getD k3 d_Op).By⟩ : DOp)).getD k3 d_Op).By⟩ : DOp)).set k3 (⟨(((x36.set k3 (⟨x35, (x36.getD k3 d_Op).Key, (x36.getD k3 d_Op).Val, (x36.getD k3 d_Op).By⟩ : DOp)).set k3 (⟨((x36.set k3 (⟨x35, (x36.getD k3 d_Op).Key, (x36.getD k3 d_Op).Val, (x36.getD k3 d_Op).By⟩ : DOp)).getD k3 d_Op).Kind, (l_markText (IntKind.wrap .i64 (x35 + 1))), ((x36.set k3 (⟨x35, (x36.getD k3 d_Op).Key, (x36.getD k3 d_Op).Val, (x36.getD k3 d_Op).By⟩ : DOp)).getD k3 d_Op).Val, ((x36.set k3 (⟨x35, (x36.getD k3 d_Op).Key, (x36.getD k3 d_Op).Val, (x36.getD k3 d_Op).By⟩ : DOp)).getD k3 d_Op).By⟩ : DOp)).getD k3 d_Op).Kind, (((x36.set k3 (⟨x35, (x36.getD k3 d_Op).Key, (x36.getD k3 d_Op).Val, (x36.getD k3 d_Op).By⟩ : DOp)).set k3 (⟨((x36.set k3 (⟨x35, (x36.getD k3 d_Op).Key, (x36.getD k3 d_Op).Val, (x36.getD k3 d_Op).By⟩ : DOp)).getD k3 d_Op).Kind, (l_markText (IntKind.wrap .i64 (x35 + 1))), ((x36.set k3 (⟨x35, (x36.getD k3 d_Op).Key, (x36.getD k3 d_Op).Val, (x36.getD k3 d_Op).By⟩ : DOp)).getD k3 d_Op).Val, ((x36.set k3 (⟨x35, (x36.getD k3 d_Op).Key, (x36.getD k3 d_Op).Val, (x36.getD k3 d_Op).By⟩ : DOp)).getD k3 d_Op).By⟩ : DOp)).getD k3 d_Op).Key, (l_markText (IntKind.wrap .i64 ((IntKind.wrap .i64 (x35 + 1)) + 1))), (((x36.set k3 (⟨x35, (x36.getD k3 d_Op).Key, (x36.getD k3 d_Op).Val, (x36.getD k3 d_Op).By⟩ : DOp)).set k3 (⟨((x36.set k3 (⟨x35, (x36.getD k3 d_Op).Key, (x36.getD k3 d_Op).Val, (x36.getD k3 d_Op).By⟩ : DOp)).getD k3 d_Op).Kind, (l_markText (IntKind.wrap .i64 (x35 + 1))), ((x36.set k3 (⟨x35, (x36.getD k3 d_Op).Key, (x36.getD k3 d_Op).Val, (x36.getD k3 d_Op).By⟩ : DOp)).getD k3 d_Op).Val, ((x36.set k3 (⟨x35, (x36.getD k3 d_Op).Key, (x36.getD k3 d_Op).Val, (x36.getD k3 d_Op).By⟩ : DOp)).getD k3 d_Op).By⟩ : DOp)).getD k3 d_Op).By⟩ : DOp)).getD k3 d_Op).Key)), .string (bs (((((x36.set k3 (⟨x35, (x36.getD k3 d_Op).Key, (x36.getD k3 d_Op).Val, (x36.getD k3 d_Op).By⟩ : DOp)).set k3 (⟨((x36.set k3 (⟨x35, (x36.getD k3 d_Op).Key, (x36.getD k3 d_Op).Val, (x36.getD k3 d_Op).By⟩ : DOp)).getD k3 d_Op).Kind, (l_markText (IntKind.wrap .i64 (x35 + 1))), ((x36.set k3 (⟨x35, (x36.getD k3 d_Op).Key, (x36.getD k3 d_Op).Val, (x36.getD k3 d_Op).By⟩ : DOp)).getD k3 d_Op).Val, ((x36.set k3 (⟨x35, (x36.getD k3 d_Op).Key, (x36.getD k3 d_Op).Val, (x36.getD k3 d_Op).By⟩ : DOp)).getD k3 d_Op).By⟩ : DOp)).set k3 (⟨(((x36.set k3 (⟨x35, (x36.getD k3 d_Op).Key, (x36.getD k3 d_Op).Val, (x36.getD k3 d_Op).By⟩ : DOp)).set k3 (⟨((x36.set k3 (⟨x35, (x36.getD k3 d_Op).Key, (x36.getD k3 d_Op).Val, (x36.getD k3 d_Op).By⟩ : DOp)).getD k3 d_Op).Kind, (l_markText (IntKind.wrap .i64 (x35 + 1))), ((x36.set k3 (⟨x35, (x36.getD k3 d_Op).Key, (x36.getD k3 d_Op).Val, (x36.getD k3 d_Op).By⟩ : DOp)).getD k3 d_Op).Val, ((x36.set k3 (⟨x35, (x36.getD k3 d_Op).Key, (x36.getD k3 d_Op).Val, (x36.getD k3 d_Op).By⟩ : DOp)).getD k3 d_Op).By⟩ : DOp)).getD k3 d_Op).Kind, (((x36.set k3 (⟨x35, (x36.getD k3 d_Op).Key, (x36.getD k3 d_Op).Val, (x36.getD k3 d_Op).By⟩ : DOp)).set k3 (⟨((x36.set k3 (⟨x35, (x36.getD k3 d_Op).Key, (x36.getD k3 d_Op).Val, (x36.getD k3 d_Op).By⟩ : DOp)).getD k3 d_Op).Kind, (l_markText (IntKind.wrap .i64 (x35 + 1))), ((x36.set k3 (⟨x35, (x36.getD k3 d_Op).Key, (x36.getD k3 d_Op).Val, (x36.getD k3 d_Op).By⟩ : DOp)).getD k3 d_Op).Val, ((x36.set k3 (⟨x35, (x36.getD k3 d_Op).Key, (x36.getD k3 d_Op).Val, (x36.getD k3 d_Op).By⟩ : DOp)).getD k3 d_Op).By⟩ : DOp)).getD k3 d_Op).Key, (l_markText (IntKind.wrap .i64 ((IntKind.wrap .i64 (x35 + 1)) + 1))), (((x36.set k3 (⟨x35, (x36.getD k3 d_Op).Key, (x36.getD k3 d_Op).Val, (x36.getD k3 d_Op).By⟩ : DOp)).set k3 (⟨((x36.set k3 (⟨x35, (x36.getD k3 d_Op).Key, (x36.getD k3 d_Op).Val, (x36.getD k3 d_Op).By⟩ : DOp)).getD k3 d_Op).Kind, (l_markText (IntKind.wrap .i64 (x35 + 1))), ((x36.set k3 (⟨x35, (x36.getD k3 d_Op).Key, (x36.getD k3 d_Op).Val, (x36.getD k3 d_Op).By⟩ : DOp)).getD k3 d_Op).Val, ((x36.set k3 (⟨x35, (x36.getD k3 d_Op).Key, (x36.getD k3 d_Op).Val, (x36.getD k3 d_Op).By⟩ : DOp)).getD k3 d_Op).By⟩ : DOp)).getD k3 d_Op).By⟩ : DOp)).getD k3 d_Op).Val)), .int .i64 (((((x36.set k3 (⟨x35, (x36.getD k3 d_Op).Key, (x36.getD k3 d_Op).Val, (x36.getD k3 d_Op).By⟩ : DOp)).set k3 (⟨((x36.set k3 (⟨x35, (x36.getD k3 d_Op).Key, (x36.getD k3 d_Op).Val, (x36.getD k3 d_Op).By⟩ : DOp)).getD k3 d_Op).Kind, (l_markText (IntKind.wrap .i64 (x35 + 1))), ((x36.set k3 (⟨x35, (x36.getD k3 d_Op).Key, (x36.getD k3 d_Op).Val, (x36.getD k3 d_Op).By⟩ : DOp)).getD k3 d_Op).Val, ((x36.set k3 (⟨x35, (x36.getD k3 d_Op).Key, (x36.getD k3 d_Op).Val, (x36.getD k3 d_Op).By⟩ : DOp)).getD k3 d_Op).By⟩ : DOp)).set k3 (⟨(((x36.set k3 (⟨x35, (x36.getD k3 d_Op).Key, (x36.getD k3 d_Op).Val, (x36.getD k3 d_Op).By⟩ : DOp)).set k3 (⟨((x36.set k3 (⟨x35, (x36.getD k3 d_Op).Key, (x36.getD k3 d_Op).Val, (x36.getD k3 d_Op).By⟩ : DOp)).getD k3 d_Op).Kind, (l_markText (IntKind.wrap .i64 (x35 + 1))), ((x36.set k3 (⟨x35, (x36.getD k3 d_Op).Key, (x36.getD k3 d_Op).Val, (x36.getD k3 d_Op).By⟩ : DOp)).getD k3 d_Op).Val, ((x36.set k3 (⟨x35, (x36.getD k3 d_Op).Key, (x36.getD k3 d_Op).Val, (x36.getD k3 d_Op).By⟩ : DOp)).getD k3 d_Op).By⟩ : DOp)).getD k3 d_Op).Kind, (((x36.set k3 (⟨x35, (x36.getD k3 d_Op).Key, (x36.getD k3 d_Op).Val, (x36.getD k3 d_Op).By⟩ : DOp)).set k3 (⟨((x36.set k3 (⟨x35, (x36.getD k3 d_Op).Key, (x36.getD k3 d_Op).Val, (x36.getD k3 d_Op).By⟩ : DOp)).getD k3 d_Op).Kind, (l_markText (IntKind.wrap .i64 (x35 + 1))), ((x36.set k3 (⟨x35, (x36.getD k3 d_Op).Key, (x36.getD k3 d_Op).Val, (x36.getD k3 d_Op).By⟩ : DOp)).getD k3 d_Op).Val, ((x36.set k3 (⟨x35, (x36.getD k3 d_Op).Key, (x36.getD k3 d_Op).Val, (x36.getD k3 d_Op).By⟩ : DOp)).getD k3 d_Op).By⟩ : DOp)).getD k3 d_Op).Key, (l_markText (IntKind.wrap .i64 ((IntKind.wrap .i64 (x35 + 1)) + 1))), (((x36.set k3 (⟨x35, (x36.getD k3 d_Op).Key, (x36.getD k3 d_Op).Val, (x36.getD k3 d_Op).By⟩ : DOp)).set k3 (⟨((x36.set k3 (⟨x35, (x36.getD k3 d_Op).Key, (x36.getD k3 d_Op).Val, (x36.getD k3 d_Op).By⟩ : DOp)).getD k3 d_Op).Kind, (l_markText (IntKind.wrap .i64 (x35 + 1))), ((x36.set k3 (⟨x35, (x36.getD k3 d_Op).Key, (x36.getD k3 d_Op).Val, (x36.getD k3 d_Op).By⟩ : DOp)).getD k3 d_Op).Val, ((x36.set k3 (⟨x35, (x36.getD k3 d_Op).Key, (x36.getD k3 d_Op).Val, (x36.getD k3 d_Op).By⟩ : DOp)).getD k3 d_Op).By⟩ : DOp)).getD k3 d_Op).By⟩ : DOp)).getD k3 d_Op).By)] := eC82
   refine sd rfl (yl_indexAddrN Try.un60 Try.ty163 rfl rfl rfl eA82 (by first | omega | assumption | (simp only [IntKind.wrap_i64] at *; omega)) (sd rfl (yl_fieldAddr Try.fd163_3 rfl rfl ?_)))
   have hrg83 := OwnL.rng hB79 (i := k3) (by first | omega | assumption | (simp only [IntKind.wrap_i64] at *; omega)) eb82 (by rw [eA82]; rfl)
   refine SeqR.u rfl rfl (yl_storeF (off := eo82) (i := k3) (d := 3) (dx := d_Op) (x' := (⟨((((x36.set k3 (⟨x35, (x36.getD k3 d_Op).Key, (x36.getD k3 d_Op).Val, (x36.getD k3 d_Op).By⟩ : DOp)).set k3 (⟨((x36.set k3 (⟨x35, (x36.getD k3 d_Op).Key, (x36.getD k3 d_Op).Val, (x36.getD k3 d_Op).By⟩ : DOp)).getD k3 d_Op).Kind, (l_markText (IntKind.wrap .i64 (x35 + 1))), ((x36.set k3 (⟨x35, (x36.getD k3 d_Op).Key, (x36.getD k3 d_Op).Val, (x36.getD k3 d_Op).By⟩ : DOp)).getD k3 d_Op).Val, ((x36.set k3 (⟨x35, (x36.getD k3 d_Op).Key, (x36.getD k3 d_Op).Val, (x36.getD k3 d_Op).By⟩ : DOp)).getD k3 d_Op).By⟩ : DOp)).set k3 (⟨(((x36.set k3 (⟨x35, (x36.getD k3 d_Op).Key, (x36.getD k3 d_Op).Val, (x36.getD k3 d_Op).By⟩ : DOp)).set k3 (⟨((x36.set k3 (⟨x35, (x36.getD k3 d_Op).Key, (x36.getD k3 d_Op).Val, (x36.getD k3 d_Op).By⟩ : DOp)).getD k3 d_Op).Kind, (l_markText (IntKind.wrap .i64 (x35 + 1))), ((x36.set k3 (⟨x35, (x36.getD k3 d_Op).Key, (x36.getD k3 d_Op).Val, (x36.getD k3 d_Op).By⟩ : DOp)).getD k3 d_Op).Val, ((x36.set k3 (⟨x35, (x36.getD k3 d_Op).Key, (x36.getD k3 d_Op).Val, (x36.getD k3 d_Op).By⟩ : DOp)).getD k3 d_Op).By⟩ : DOp)).getD k3 d_Op).Kind, (((x36.set k3 (⟨x35, (x36.getD k3 d_Op).Key, (x36.getD k3 d_Op).Val, (x36.getD k3 d_Op).By⟩ : DOp)).set k3 (⟨((x36.set k3 (⟨x35, (x36.getD k3 d_Op).Key, (x36.getD k3 d_Op).Val, (x36.getD k3 d_Op).By⟩ : DOp)).getD k3 d_Op).Kind, (l_markText (IntKind.wrap .i64 (x35 + 1))), ((x36.set k3 (⟨x35, (x36.getD k3 d_Op).Key, (x36.getD k3 d_Op).Val, (x36.getD k3 d_Op).By⟩ : DOp)).getD k3 d_Op).Val, ((x36.set k3 (⟨x35, (x36.getD k3 d_Op).Key, (x36.getD k3 d_Op).Val, (x36.getD k3 d_Op).By⟩ : DOp)).getD k3 d_Op).By⟩ : DOp)).getD k3 d_Op).Key, (l_markText (IntKind.wrap .i64 ((IntKind.wrap .i64 (x35 + 1)) + 1))), (((x36.set k3 (⟨x35, (x36.getD k3 d_Op).Key, (x36.getD k3 d_Op).Val, (x36.getD k3 d_Op).By⟩ : DOp)).set k3 (⟨((x36.set k3 (⟨x35, (x36.getD k3 d_Op).Key, (x36.getD k3 d_Op).Val, (x36.getD k3 d_Op).By⟩ : DOp)).getD k3 d_Op).Kind, (l_markText (IntKind.wrap .i64 (x35 + 1))), ((x36.set k3 (⟨x35, (x36.getD k3 d_Op).Key, (x36.getD k3 d_Op).Val, (x36.getD k3 d_Op).By⟩ : DOp)).getD k3 d_Op).Val, ((x36.set k3 (⟨x35, (x36.getD k3 d_Op).Key, (x36.getD k3 d_Op).Val, (x36.getD k3 d_Op).By⟩ : DOp)).getD k3 d_Op).By⟩ : DOp)).getD k3 d_Op).By⟩ : DOp)).getD k3 d_Op).Kind, ((((x36.set k3 (⟨x35, (x36.getD k3 d_Op).Key, (x36.getD k3 d_Op).Val, (x36.getD k3 d_Op).By⟩ : DOp)).set k3 (⟨((x36.set k3 (⟨x35, (x36.getD k3 d_Op).Key, (x36.getD k3 d_Op).Val, (x36.getD k3 d_Op).By⟩ : DOp)).getD k3 d_Op).Kind, (l_markText (IntKind.wrap .i64 (x35 + 1))), ((x36.set k3 (⟨x35, (x36.getD k3 d_Op).Key, (x36.getD k3 d_Op).Val, (x36.getD k3 d_Op).By⟩ : DOp)).getD k3 d_Op).Val, ((x36.set k3 (⟨x35, (x36.getD k3 d_Op).Key, (x36.getD k3 d_Op).Val, (x36.getD k3 d_Op).By⟩ : DOp)).getD k3 d_Op).By⟩ : DOp)).set k3 (⟨(((x36.set k3 (⟨x35, (x36.getD k3 d_Op).Key, (x36.getD k3 d_Op).Val, (x36.getD k3 d_Op).By⟩ : DOp)).set k3 (⟨((x36.set k3 (⟨x35, (x36.getD k3 d_Op).Key, (x36.getD k3 d_Op).Val, (x36.getD k3 d_Op).By⟩ : DOp)).getD k3 d_Op).Kind, (l_markText (IntKind.wrap .i64 (x35 + 1))), ((x36.set k3 (⟨x35, (x36.getD k3 d_Op).Key, (x36.getD k3 d_Op).Val, (x36.getD k3 d_Op).By⟩ : DOp)).getD k3 d_Op).Val, ((x36.set k3 (⟨x35, (x36.getD k3 d_Op).Key, (x36.getD k3 d_Op).Val, (x36.getD k3 d_Op).By⟩ : DOp)).getD k3 d_Op).By⟩ : DOp)).getD k3 d_Op).Kind, (((x36.set k3 (⟨x35, (x36.getD k3 d_Op).Key, (x36.getD k3 d_Op).Val, (x36.getD k3 d_Op).By⟩ : DOp)).set k3 (⟨((x36.set k3 (⟨x35, (x36.getD k3 d_Op).Key, (x36.getD k3 d_Op).Val, (x36.getD k3 d_Op).By⟩ : DOp)).getD k3 d_Op).Kind, (l_markText (IntKind.wrap .i64 (x35 + 1))), ((x36.set k3 (⟨x35, (x36.getD k3 d_Op).Key, (x36.getD k3 d_Op).Val, (x36.getD k3 d_Op).By⟩ : DOp)).getD k3 d_Op).Val, ((x36.set k3 (⟨x35, (x36.getD k3 d_Op).Key, (x36.getD k3 d_Op).Val, (x36.getD k3 d_Op).By⟩ : DOp)).getD k3 d_Op).By⟩ : DOp)).getD k3 d_Op).Key, (l_markText (IntKind.wrap .i64 ((IntKind.wrap .i64 (x35 + 1)) + 1))), (((x36.set k3 (⟨x35, (x36.getD k3 d_Op).Key, (x36.getD k3 d_Op).Val, (x36.getD k3 d_Op).By⟩ : DOp)).set k3 (⟨((x36.set k3 (⟨x35, (x36.getD k3 d_Op).Key, (x36.getD k3 d_Op).Val, (x36.getD k3 d_Op).By⟩ : DOp)).getD k3 d_Op).Kind, (l_markText (IntKind.wrap .i64 (x35 + 1))), ((x36.set k3 (⟨x35, (x36.getD k3 d_Op).Key, (x36.getD k3 d_Op).Val, (x36.getD k3 d_Op).By⟩ : DOp)).getD k3 d_Op).Val, ((x36.set k3 (⟨x35, (x36.getD k3 d_Op).Key, (x36.getD k3 d_Op).Val, (x36.getD k3 d_Op).By⟩ : DOp)).getD k3 d_Op).By⟩ : DOp)).getD k3 d_Op).By⟩ : DOp)).getD k3 d_Op).Key, ((((x36.set k3 (⟨x35, (x36.getD k3 d_Op).Key, (x36.getD k3 d_Op).Val, (x36.getD k3 d_Op).By⟩ : DOp)).set k3 (⟨((x36.set k3 (⟨x35, (x36.getD k3 d_Op).Key, (x36.getD k3 d_Op).Val, (x36.getD k3 d_Op).By⟩ : DOp)).getD k3 d_Op).Kind, (l_markText (IntKind.wrap .i64 (x35 + 1))), ((x36.set k3 (⟨x35, (x36.getD k3 d_Op).Key, (x36.getD k3 d_Op).Val, (x36.getD k3 d_Op).By⟩ : DOp)).getD k3 d_Op).Val, ((x36.set k3 (⟨x35, (x36.getD k3 d_Op).Key, (x36.getD k3 d_Op).Val, (x36.getD k3 d_Op).By⟩ : DOp)).getD k3 d_Op).By⟩ : DOp)).set k3 (⟨(((x36.set k3 (⟨x35, (x36.getD k3 d_Op).Key, (x36.getD k3 d_Op).Val, (x36.getD k3 d_Op).By⟩ : DOp)).set k3 (⟨((x36.set k3 (⟨x35, (x36.getD k3 d_Op).Key, (x36.getD k3 d_Op).Val, (x36.getD k3 d_Op).By⟩ : DOp)).getD k3 d_Op).Kind, (l_markText (IntKind.wrap .i64 (x35 + 1))), ((x36.set k3 (⟨x35, (x36.getD k3 d_Op).Key, (x36.getD k3 d_Op).Val, (x36.getD k3 d_Op).By⟩ : DOp)).getD k3 d_Op).Val, ((x36.set k3 (⟨x35, (x36.getD k3 d_Op).Key, (x36.getD k3 d_Op).Val, (x36.getD k3 d_Op).By⟩ : DOp)).getD k3 d_Op).By⟩ : DOp)).getD k3 d_Op).Kind, (((x36.set k3 (⟨x35, (x36.getD k3 d_Op).Key, (x36.getD k3 d_Op).Val, (x36.getD k3 d_Op).By⟩ : DOp)).set k3 (⟨((x36.set k3 (⟨x35, (x36.getD k3 d_Op).Key, (x36.getD k3 d_Op).Val, (x36.getD k3 d_Op).By⟩ : DOp)).getD k3 d_Op).Kind, (l_markText (IntKind.wrap .i64 (x35 + 1))), ((x36.set k3 (⟨x35, (x36.getD k3 d_Op).Key, (x36.getD k3 d_Op).Val, (x36.getD k3 d_Op).By⟩ : DOp)).getD k3 d_Op).Val, ((x36.set k3 (⟨x35, (x36.getD k3 d_Op).Key, (x36.getD k3 d_Op).Val, (x36.getD k3 d_Op).By⟩ : DOp)).getD k3 d_Op).By⟩ : DOp)).getD k3 d_Op).Key, (l_markText (IntKind.wrap .i64 ((IntKind.wrap .i64 (x35 + 1)) + 1))), (((x36.set k3 (⟨x35, (x36.getD k3 d_Op).Key, (x36.getD k3 d_Op).Val, (x36.getD k3 d_Op).By⟩ : DOp)).set k3 (⟨((x36.set k3 (⟨x35, (x36.getD k3 d_Op).Key, (x36.getD k3 d_Op).Val, (x36.getD k3 d_Op).By⟩ : DOp)).getD k3 d_Op).Kind, (l_markText (IntKind.wrap .i64 (x35 + 1))), ((x36.set k3 (⟨x35, (x36.getD k3 d_Op).Key, (x36.getD k3 d_Op).Val, (x36.getD k3 d_Op).By⟩ : DOp)).getD k3 d_Op).Val, ((x36.set k3 (⟨x35, (x36.getD k3 d_Op).Key, (x36.getD k3 d_Op).Val, (x36.getD k3 d_Op).By⟩ : DOp)).getD k3 d_Op).By⟩ : DOp)).getD k3 d_Op).By⟩ : DOp)).getD k3 d_Op).Val, IntKind.wrap .i64 ((IntKind.wrap .i64 ((IntKind.wrap .i64 (x35 + 1)) + 1)) + 1)⟩ : DOp)) (vs := [.int .i64 (IntKind.wrap .i64 ((IntKind.wrap .i64 ((IntKind.wrap .i64 (x35 + 1)) + 1)) + 1))]) Try.ty3 rfl hB79 eA82 rfl rfl rfl rfl rfl (by first | omega | assumption | (simp only [IntKind.wrap_i64] at *; omega)) (Nat.le_of_ble_eq_true rfl) rfl rfl ?_)
   intro w84 hB85 hO86
   have hO86z := hO86.size
   refine SeqR.done (tn (CW.region (sd rfl (yl_move rfl rfl (sd rfl (yl_add rfl rfl rfl (sd rfl (yl_assign rfl rfl (SeqR.done (bn (tn ?_)))))))))))
   refine CW.region (sd rfl (yl_move rfl rfl (sd rfl (yl_inc rfl rfl rfl (by omega) (sd rfl (yl_assign rfl rfl (SeqR.done (tn ?_))))))))
   have hB87 : B_l_markOpS_0 p_a p_k k3 (x35, x36) = .cont (IntKind.wrap .i64 ((IntKind.wrap .i64 ((IntKind.wrap .i64 ((IntKind.wrap .i64 (x35 + 1)) + 1)) + 1)) + 1), ((((x36.set k3 (⟨x35, (x36.getD k3 d_Op).Key, (x36.getD k3 d_Op).Val, (x36.getD k3 d_Op).By⟩ : DOp)).set k3 (⟨((x36.set k3 (⟨x35, (x36.getD k3 d_Op).Key, (x36.getD k3 d_Op).Val, (x36.getD k3 d_Op).By⟩ : DOp)).getD k3 d_Op).Kind, (l_markText (IntKind.wrap .i64 (x35 + 1))), ((x36.set k3 (⟨x35, (x36.getD k3 d_Op).Key, (x36.getD k3 d_Op).Val, (x36.getD k3 d_Op).By⟩ : DOp)).getD k3 d_Op).Val, ((x36.set k3 (⟨x35, (x36.getD k3 d_Op).Key, (x36.getD k3 d_Op).Val, (x36.getD k3 d_Op).By⟩ : DOp)).getD k3 d_Op).By⟩ : DOp)).set k3 (⟨(((x36.set k3 (⟨x35, (x36.getD k3 d_Op).Key, (x36.getD k3 d_Op).Val, (x36.getD k3 d_Op).By⟩ : DOp)).set k3 (⟨((x36.set k3 (⟨x35, (x36.getD k3 d_Op).Key, (x36.getD k3 d_Op).Val, (x36.getD k3 d_Op).By⟩ : DOp)).getD k3 d_Op).Kind, (l_markText (IntKind.wrap .i64 (x35 + 1))), ((x36.set k3 (⟨x35, (x36.getD k3 d_Op).Key, (x36.getD k3 d_Op).Val, (x36.getD k3 d_Op).By⟩ : DOp)).getD k3 d_Op).Val, ((x36.set k3 (⟨x35, (x36.getD k3 d_Op).Key, (x36.getD k3 d_Op).Val, (x36.getD k3 d_Op).By⟩ : DOp)).getD k3 d_Op).By⟩ : DOp)).getD k3 d_Op).Kind, (((x36.set k3 (⟨x35, (x36.getD k3 d_Op).Key, (x36.getD k3 d_Op).Val, (x36.getD k3 d_Op).By⟩ : DOp)).set k3 (⟨((x36.set k3 (⟨x35, (x36.getD k3 d_Op).Key, (x36.getD k3 d_Op).Val, (x36.getD k3 d_Op).By⟩ : DOp)).getD k3 d_Op).Kind, (l_markText (IntKind.wrap .i64 (x35 + 1))), ((x36.set k3 (⟨x35, (x36.getD k3 d_Op).Key, (x36.getD k3 d_Op).Val, (x36.getD k3 d_Op).By⟩ : DOp)).getD k3 d_Op).Val, ((x36.set k3 (⟨x35, (x36.getD k3 d_Op).Key, (x36.getD k3 d_Op).Val, (x36.getD k3 d_Op).By⟩ : DOp)).getD k3 d_Op).By⟩ : DOp)).getD k3 d_Op).Key, (l_markText (IntKind.wrap .i64 ((IntKind.wrap .i64 (x35 + 1)) + 1))), (((x36.set k3 (⟨x35, (x36.getD k3 d_Op).Key, (x36.getD k3 d_Op).Val, (x36.getD k3 d_Op).By⟩ : DOp)).set k3 (⟨((x36.set k3 (⟨x35, (x36.getD k3 d_Op).Key, (x36.getD k3 d_Op).Val, (x36.getD k3 d_Op).By⟩ : DOp)).getD k3 d_Op).Kind, (l_markText (IntKind.wrap .i64 (x35 + 1))), ((x36.set k3 (⟨x35, (x36.getD k3 d_Op).Key, (x36.getD k3 d_Op).Val, (x36.getD k3 d_Op).By⟩ : DOp)).getD k3 d_Op).Val, ((x36.set k3 (⟨x35, (x36.getD k3 d_Op).Key, (x36.getD k3 d_Op).Val, (x36.getD k3 d_Op).By⟩ : DOp)).getD k3 d_Op).By⟩ : DOp)).getD k3 d_Op).By⟩ : DOp)).set k3 (⟨((((x36.set k3 (⟨x35, (x36.getD k3 d_Op).Key, (x36.getD k3 d_Op).Val, (x36.getD k3 d_Op).By⟩ : DOp)).set k3 (⟨((x36.set k3 (⟨x35, (x36.getD k3 d_Op).Key, (x36.getD k3 d_Op).Val, (x36.getD k3 d_Op).By⟩ : DOp)).getD k3 d_Op).Kind, (l_markText (IntKind.wrap .i64 (x35 + 1))), ((x36.set k3 (⟨x35, (x36.getD k3 d_Op).Key, (x36.getD k3 d_Op).Val, (x36.getD k3 d_Op).By⟩ : DOp)).getD k3 d_Op).Val, ((x36.set k3 (⟨x35, (x36.getD k3 d_Op).Key, (x36.getD k3 d_Op).Val, (x36.getD k3 d_Op).By⟩ : DOp)).getD k3 d_Op).By⟩ : DOp)).set k3 (⟨(((x36.set k3 (⟨x35, (x36.getD k3 d_Op).Key, (x36.getD k3 d_Op).Val, (x36.getD k3 d_Op).By⟩ : DOp)).set k3 (⟨((x36.set k3 (⟨x35, (x36.getD k3 d_Op).Key, (x36.getD k3 d_Op).Val, (x36.getD k3 d_Op).By⟩ : DOp)).getD k3 d_Op).Kind, (l_markText (IntKind.wrap .i64 (x35 + 1))), ((x36.set k3 (⟨x35, (x36.getD k3 d_Op).Key, (x36.getD k3 d_Op).Val, (x36.getD k3 d_Op).By⟩ : DOp)).getD k3 d_Op).Val, ((x36.set k3 (⟨x35, (x36.getD k3 d_Op).Key, (x36.getD k3 d_Op).Val, (x36.getD k3 d_Op).By⟩ : DOp)).getD k3 d_Op).By⟩ : DOp)).getD k3 d_Op).Kind, (((x36.set k3 (⟨x35, (x36.getD k3 d_Op).Key, (x36.getD k3 d_Op).Val, (x36.getD k3 d_Op).By⟩ : DOp)).set k3 (⟨((x36.set k3 (⟨x35, (x36.getD k3 d_Op).Key, (x36.getD k3 d_Op).Val, (x36.getD k3 d_Op).By⟩ : DOp)).getD k3 d_Op).Kind, (l_markText (IntKind.wrap .i64 (x35 + 1))), ((x36.set k3 (⟨x35, (x36.getD k3 d_Op).Key, (x36.getD k3 d_Op).Val, (x36.getD k3 d_Op).By⟩ : DOp)).getD k3 d_Op).Val, ((x36.set k3 (⟨x35, (x36.getD k3 d_Op).Key, (x36.getD k3 d_Op).Val, (x36.getD k3 d_Op).By⟩ : DOp)).getD k3 d_Op).By⟩ : DOp)).getD k3 d_Op).Key, (l_markText (IntKind.wrap .i64 ((IntKind.wrap .i64 (x35 + 1)) + 1))), (((x36.set k3 (⟨x35, (x36.getD k3 d_Op).Key, (x36.getD k3 d_Op).Val, (x36.getD k3 d_Op).By⟩ : DOp)).set k3 (⟨((x36.set k3 (⟨x35, (x36.getD k3 d_Op).Key, (x36.getD k3 d_Op).Val, (x36.getD k3 d_Op).By⟩ : DOp)).getD k3 d_Op).Kind, (l_markText (IntKind.wrap .i64 (x35 + 1))), ((x36.set k3 (⟨x35, (x36.getD k3 d_Op).Key, (x36.getD k3 d_Op).Val, (x36.getD k3 d_Op).By⟩ : DOp)).getD k3 d_Op).Val, ((x36.set k3 (⟨x35, (x36.getD k3 d_Op).Key, (x36.getD k3 d_Op).Val, (x36.getD k3 d_Op).By⟩ : DOp)).getD k3 d_Op).By⟩ : DOp)).getD k3 d_Op).By⟩ : DOp)).getD k3 d_Op).Kind, ((((x36.set k3 (⟨x35, (x36.getD k3 d_Op).Key, (x36.getD k3 d_Op).Val, (x36.getD k3 d_Op).By⟩ : DOp)).set k3 (⟨((x36.set k3 (⟨x35, (x36.getD k3 d_Op).Key, (x36.getD k3 d_Op).Val, (x36.getD k3 d_Op).By⟩ : DOp)).getD k3 d_Op).Kind, (l_markText (IntKind.wrap .i64 (x35 + 1))), ((x36.set k3 (⟨x35, (x36.getD k3 d_Op).Key, (x36.getD k3 d_Op).Val, (x36.getD k3 d_Op).By⟩ : DOp)).getD k3 d_Op).Val, ((x36.set k3 (⟨x35, (x36.getD k3 d_Op).Key, (x36.getD k3 d_Op).Val, (x36.getD k3 d_Op).By⟩ : DOp)).getD k3 d_Op).By⟩ : DOp)).set k3 (⟨(((x36.set k3 (⟨x35, (x36.getD k3 d_Op).Key, (x36.getD k3 d_Op).Val, (x36.getD k3 d_Op).By⟩ : DOp)).set k3 (⟨((x36.set k3 (⟨x35, (x36.getD k3 d_Op).Key, (x36.getD k3 d_Op).Val, (x36.getD k3 d_Op).By⟩ : DOp)).getD k3 d_Op).Kind, (l_markText (IntKind.wrap .i64 (x35 + 1))), ((x36.set k3 (⟨x35, (x36.getD k3 d_Op).Key, (x36.getD k3 d_Op).Val, (x36.getD k3 d_Op).By⟩ : DOp)).getD k3 d_Op).Val, ((x36.set k3 (⟨x35, (x36.getD k3 d_Op).Key, (x36.getD k3 d_Op).Val, (x36.getD k3 d_Op).By⟩ : DOp)).getD k3 d_Op).By⟩ : DOp)).getD k3 d_Op).Kind, (((x36.set k3 (⟨x35, (x36.getD k3 d_Op).Key, (x36.getD k3 d_Op).Val, (x36.getD k3 d_Op).By⟩ : DOp)).set k3 (⟨((x36.set k3 (⟨x35, (x36.getD k3 d_Op).Key, (x36.getD k3 d_Op).Val, (x36.getD k3 d_Op).By⟩ : DOp)).getD k3 d_Op).Kind, (l_markText (IntKind.wrap .i64 (x35 + 1))), ((x36.set k3 (⟨x35, (x36.getD k3 d_Op).Key, (x36.getD k3 d_Op).Val, (x36.getD k3 d_Op).By⟩ : DOp)).getD k3 d_Op).Val, ((x36.set k3 (⟨x35, (x36.getD k3 d_Op).Key, (x36.getD k3 d_Op).Val, (x36.getD k3 d_Op).By⟩ : DOp)).getD k3 d_Op).By⟩ : DOp)).getD k3 d_Op).Key, (l_markText (IntKind.wrap .i64 ((IntKind.wrap .i64 (x35 + 1)) + 1))), (((x36.set k3 (⟨x35, (x36.getD k3 d_Op).Key, (x36.getD k3 d_Op).Val, (x36.getD k3 d_Op).By⟩ : DOp)).set k3 (⟨((x36.set k3 (⟨x35, (x36.getD k3 d_Op).Key, (x36.getD k3 d_Op).Val, (x36.getD k3 d_Op).By⟩ : DOp)).getD k3 d_Op).Kind, (l_markText (IntKind.wrap .i64 (x35 + 1))), ((x36.set k3 (⟨x35, (x36.getD k3 d_Op).Key, (x36.getD k3 d_Op).Val, (x36.getD k3 d_Op).By⟩ : DOp)).getD k3 d_Op).Val, ((x36.set k3 (⟨x35, (x36.getD k3 d_Op).Key, (x36.getD k3 d_Op).Val, (x36.getD k3 d_Op).By⟩ : DOp)).getD k3 d_Op).By⟩ : DOp)).getD k3 d_Op).By⟩ : DOp)).getD k3 d_Op).Key, ((((x36.set k3 (⟨x35, (x36.getD k3 d_Op).Key, (x36.getD k3 d_Op).Val, (x36.getD k3 d_Op).By⟩ : DOp)).set k3 (⟨((x36.set k3 (⟨x35, (x36.getD k3 d_Op).Key, (x36.getD k3 d_Op).Val, (x36.getD k3 d_Op).By⟩ : DOp)).getD k3 d_Op).Kind, (l_markText (IntKind.wrap .i64 (x35 + 1))), ((x36.set k3 (⟨x35, (x36.getD k3 d_Op).Key, (x36.getD k3 d_Op).Val, (x36.getD k3 d_Op).By⟩ : DOp)).getD k3 d_Op).Val, ((x36.set k3 (⟨x35, (x36.getD k3 d_Op).Key, (x36.getD k3 d_Op).Val, (x36.getD k3 d_Op).By⟩ : DOp)).getD k3 d_Op).By⟩ : DOp)).set k3 (⟨(((x36.set k3 (⟨x35, (x36.getD k3 d_Op).Key, (x36.getD k3 d_Op).Val, (x36.getD k3 d_Op).By⟩ : DOp)).set k3 (⟨((x36.set k3 (⟨x35, (x36.getD k3 d_Op).Key, (x36.getD k3 d_Op).Val, (x36.getD k3 d_Op).By⟩ : DOp)).getD k3 d_Op).Kind, (l_markText (IntKind.wrap .i64 (x35 + 1))), ((x36.set k3 (⟨x35, (x36.getD k3 d_Op).Key, (x36.getD k3 d_Op).Val, (x36.getD k3 d_Op).By⟩ : DOp)).getD k3 d_Op).Val, ((x36.set k3 (⟨x35, (x36.getD k3 d_Op).Key, (x36.getD k3 d_Op).Val, (x36.getD k3 d_Op).By⟩ : DOp)).getD k3 d_Op).By⟩ : DOp)).getD k3 d_Op).Kind, (((x36.set k3 (⟨x35, (x36.getD k3 d_Op).Key, (x36.getD k3 d_Op).Val, (x36.getD k3 d_Op).By⟩ : DOp)).set k3 (⟨((x36.set k3 (⟨x35, (x36.getD k3 d_Op).Key, (x36.getD k3 d_Op).Val, (x36.getD k3 d_Op).By⟩ : DOp)).getD k3 d_Op).Kind, (l_markText (IntKind.wrap .i64 (x35 + 1))), ((x36.set k3 (⟨x35, (x36.getD k3 d_Op).Key, (x36.getD k3 d_Op).Val, (x36.getD k3 d_Op).By⟩ : DOp)).getD k3 d_Op).Val, ((x36.set k3 (⟨x35, (x36.getD k3 d_Op).Key, (x36.getD k3 d_Op).Val, (x36.getD k3 d_Op).By⟩ : DOp)).getD k3 d_Op).By⟩ : DOp)).getD k3 d_Op).Key, (l_markText (IntKind.wrap .i64 ((IntKind.wrap .i64 (x35 + 1)) + 1))), (((x36.set k3 (⟨x35, (x36.getD k3 d_Op).Key, (x36.getD k3 d_Op).Val, (x36.getD k3 d_Op).By⟩ : DOp)).set k3 (⟨((x36.set k3 (⟨x35, (x36.getD k3 d_Op).Key, (x36.getD k3 d_Op).Val, (x36.getD k3 d_Op).By⟩ : DOp)).getD k3 d_Op).Kind, (l_markText (IntKind.wrap .i64 (x35 + 1))), ((x36.set k3 (⟨x35, (x36.getD k3 d_Op).Key, (x36.getD k3 d_Op).Val, (x36.getD k3 d_Op).By⟩ : DOp)).getD k3 d_Op).Val, ((x36.set k3 (⟨x35, (x36.getD k3 d_Op).Key, (x36.getD k3 d_Op).Val, (x36.getD k3 d_Op).By⟩ : DOp)).getD k3 d_Op).By⟩ : DOp)).getD k3 d_Op).By⟩ : DOp)).getD k3 d_Op).Val, IntKind.wrap .i64 ((IntKind.wrap .i64 ((IntKind.wrap .i64 (x35 + 1)) + 1)) + 1)⟩ : DOp))) := by simp only [B_l_markOpS_0, cond_true, cond_false, loopE_done, loopE_ret]
   exact ⟨p_a.length - (k3 + 1), by omega, k3 + 1, IntKind.wrap .i64 ((IntKind.wrap .i64 ((IntKind.wrap .i64 ((IntKind.wrap .i64 (x35 + 1)) + 1)) + 1)) + 1), ((((x36.set k3 (⟨x35, (x36.getD k3 d_Op).Key, (x36.getD k3 d_Op).Val, (x36.getD k3 d_Op).By⟩ : DOp)).set k3 (⟨((x36.set k3 (⟨x35, (x36.getD k3 d_Op).Key, (x36.getD k3 d_Op).Val, (x36.getD k3 d_Op).By⟩ : DOp)).getD k3 d_Op).Kind, (l_markText (IntKind.wrap .i64 (x35 + 1))), ((x36.set k3 (⟨x35, (x36.getD k3 d_Op).Key, (x36.getD k3 d_Op).Val, (x36.getD k3 d_Op).By⟩ : DOp)).getD k3 d_Op).Val, ((x36.set k3 (⟨x35, (x36.getD k3 d_Op).Key, (x36.getD k3 d_Op).Val, (x36.getD k3 d_Op).By⟩ : DOp)).getD k3 d_Op).By⟩ : DOp)).set k3 (⟨(((x36.set k3 (⟨x35, (x36.getD k3 d_Op).Key, (x36.getD k3 d_Op).Val, (x36.getD k3 d_Op).By⟩ : DOp)).set k3 (⟨((x36.set k3 (⟨x35, (x36.getD k3 d_Op).Key, (x36.getD k3 d_Op).Val, (x36.getD k3 d_Op).By⟩ : DOp)).getD k3 d_Op).Kind, (l_markText (IntKind.wrap .i64 (x35 + 1))), ((x36.set k3 (⟨x35, (x36.getD k3 d_Op).Key, (x36.getD k3 d_Op).Val, (x36.getD k3 d_Op).By⟩ : DOp)).getD k3 d_Op).Val, ((x36.set k3 (⟨x35, (x36.getD k3 d_Op).Key, (x36.getD k3 d_Op).Val, (x36.getD k3 d_Op).By⟩ : DOp)).getD k3 d_Op).By⟩ : DOp)).getD k3 d_Op).Kind, (((x36.set k3 (⟨x35, (x36.getD k3 d_Op).Key, (x36.getD k3 d_Op).Val, (x36.getD k3 d_Op).By⟩ : DOp)).set k3 (⟨((x36.set k3 (⟨x35, (x36.getD k3 d_Op).Key, (x36.getD k3 d_Op).Val, (x36.getD k3 d_Op).By⟩ : DOp)).getD k3 d_Op).Kind, (l_markText (IntKind.wrap .i64 (x35 + 1))), ((x36.set k3 (⟨x35, (x36.getD k3 d_Op).Key, (x36.getD k3 d_Op).Val, (x36.getD k3 d_Op).By⟩ : DOp)).getD k3 d_Op).Val, ((x36.set k3 (⟨x35, (x36.getD k3 d_Op).Key, (x36.getD k3 d_Op).Val, (x36.getD k3 d_Op).By⟩ : DOp)).getD k3 d_Op).By⟩ : DOp)).getD k3 d_Op).Key, (l_markText (IntKind.wrap .i64 ((IntKind.wrap .i64 (x35 + 1)) + 1))), (((x36.set k3 (⟨x35, (x36.getD k3 d_Op).Key, (x36.getD k3 d_Op).Val, (x36.getD k3 d_Op).By⟩ : DOp)).set k3 (⟨((x36.set k3 (⟨x35, (x36.getD k3 d_Op).Key, (x36.getD k3 d_Op).Val, (x36.getD k3 d_Op).By⟩ : DOp)).getD k3 d_Op).Kind, (l_markText (IntKind.wrap .i64 (x35 + 1))), ((x36.set k3 (⟨x35, (x36.getD k3 d_Op).Key, (x36.getD k3 d_Op).Val, (x36.getD k3 d_Op).By⟩ : DOp)).getD k3 d_Op).Val, ((x36.set k3 (⟨x35, (x36.getD k3 d_Op).Key, (x36.getD k3 d_Op).Val, (x36.getD k3 d_Op).By⟩ : DOp)).getD k3 d_Op).By⟩ : DOp)).getD k3 d_Op).By⟩ : DOp)).set k3 (⟨((((x36.set k3 (⟨x35, (x36.getD k3 d_Op).Key, (x36.getD k3 d_Op).Val, (x36.getD k3 d_Op).By⟩ : DOp)).set k3 (⟨((x36.set k3 (⟨x35, (x36.getD k3 d_Op).Key, (x36.getD k3 d_Op).Val, (x36.getD k3 d_Op).By⟩ : DOp)).getD k3 d_Op).Kind, (l_markText (IntKind.wrap .i64 (x35 + 1))), ((x36.set k3 (⟨x35, (x36.getD k3 d_Op).Key, (x36.getD k3 d_Op).Val, (x36.getD k3 d_Op).By⟩ : DOp)).getD k3 d_Op).Val, ((x36.set k3 (⟨x35, (x36.getD k3 d_Op).Key, (x36.getD k3 d_Op).Val, (x36.getD k3 d_Op).By⟩ : DOp)).getD k3 d_Op).By⟩ : DOp)).set k3 (⟨(((x36.set k3 (⟨x35, (x36.getD k3 d_Op).Key, (x36.getD k3 d_Op).Val, (x36.getD k3 d_Op).By⟩ : DOp)).set k3 (⟨((x36.set k3 (⟨x35, (x36.getD k3 d_Op).Key, (x36.getD k3 d_Op).Val, (x36.getD k3 d_Op).By⟩ : DOp)).getD k3 d_Op).Kind, (l_markText (IntKind.wrap .i64 (x35 + 1))), ((x36.set k3 (⟨x35, (x36.getD k3 d_Op).Key, (x36.getD k3 d_Op).Val, (x36.getD k3 d_Op).By⟩ : DOp)).getD k3 d_Op).Val, ((x36.set k3 (⟨x35, (x36.getD k3 d_Op).Key, (x36.getD k3 d_Op).Val, (x36.getD k3 d_Op).By⟩ : DOp)).getD k3 d_Op).By⟩ : DOp)).getD k3 d_Op).Kind, (((x36.set k3 (⟨x35, (x36.getD k3 d_Op).Key, (x36.getD k3 d_Op).Val, (x36.getD k3 d_Op).By⟩ : DOp)).set k3 (⟨((x36.set k3 (⟨x35, (x36.getD k3 d_Op).Key, (x36.getD k3 d_Op).Val, (x36.getD k3 d_Op).By⟩ : DOp)).getD k3 d_Op).Kind, (l_markText (IntKind.wrap .i64 (x35 + 1))), ((x36.set k3 (⟨x35, (x36.getD k3 d_Op).Key, (x36.getD k3 d_Op).Val, (x36.getD k3 d_Op).By⟩ : DOp)).getD k3 d_Op).Val, ((x36.set k3 (⟨x35, (x36.getD k3 d_Op).Key, (x36.getD k3 d_Op).Val, (x36.getD k3 d_Op).By⟩ : DOp)).getD k3 d_Op).By⟩ : DOp)).getD k3 d_Op).Key, (l_markText (IntKind.wrap .i64 ((IntKind.wrap .i64 (x35 + 1)) + 1))), (((x36.set k3 (⟨x35, (x36.getD k3 d_Op).Key, (x36.getD k3 d_Op).Val, (x36.getD k3 d_Op).By⟩ : DOp)).set k3 (⟨((x36.set k3 (⟨x35, (x36.getD k3 d_Op).Key, (x36.getD k3 d_Op).Val, (x36.getD k3 d_Op).By⟩ : DOp)).getD k3 d_Op).Kind, (l_markText (IntKind.wrap .i64 (x35 + 1))), ((x36.set k3 (⟨x35, (x36.getD k3 d_Op).Key, (x36.getD k3 d_Op).Val, (x36.getD k3 d_Op).By⟩ : DOp)).getD k3 d_Op).Val, ((x36.set k3 (⟨x35, (x36.getD k3 d_Op).Key, (x36.getD k3 d_Op).Val, (x36.getD k3 d_Op).By⟩ : DOp)).getD k3 d_Op).By⟩ : DOp)).getD k3 d_Op).By⟩ : DOp)).getD k3 d_Op).Kind, ((((x36.set k3 (⟨x35, (x36.getD k3 d_Op).Key, (x36.getD k3 d_Op).Val, (x36.getD k3 d_Op).By⟩ : DOp)).set k3 (⟨((x36.set k3 (⟨x35, (x36.getD k3 d_Op).Key, (x36.getD k3 d_Op).Val, (x36.getD k3 d_Op).By⟩ : DOp)).getD k3 d_Op).Kind, (l_markText (IntKind.wrap .i64 (x35 + 1))), ((x36.set k3 (⟨x35, (x36.getD k3 d_Op).Key, (x36.getD k3 d_Op).Val, (x36.getD k3 d_Op).By⟩ : DOp)).getD k3 d_Op).Val, ((x36.set k3 (⟨x35, (x36.getD k3 d_Op).Key, (x36.getD k3 d_Op).Val, (x36.getD k3 d_Op).By⟩ : DOp)).getD k3 d_Op).By⟩ : DOp)).set k3 (⟨(((x36.set k3 (⟨x35, (x36.getD k3 d_Op).Key, (x36.getD k3 d_Op).Val, (x36.getD k3 d_Op).By⟩ : DOp)).set k3 (⟨((x36.set k3 (⟨x35, (x36.getD k3 d_Op).Key, (x36.getD k3 d_Op).Val, (x36.getD k3 d_Op).By⟩ : DOp)).getD k3 d_Op).Kind, (l_markText (IntKind.wrap .i64 (x35 + 1))), ((x36.set k3 (⟨x35, (x36.getD k3 d_Op).Key, (x36.getD k3 d_Op).Val, (x36.getD k3 d_Op).By⟩ : DOp)).getD k3 d_Op).Val, ((x36.set k3 (⟨x35, (x36.getD k3 d_Op).Key, (x36.getD k3 d_Op).Val, (x36.getD k3 d_Op).By⟩ : DOp)).getD k3 d_Op).By⟩ : DOp)).getD k3 d_Op).Kind, (((x36.set k3 (⟨x35, (x36.getD k3 d_Op).Key, (x36.getD k3 d_Op).Val, (x36.getD k3 d_Op).By⟩ : DOp)).set k3 (⟨((x36.set k3 (⟨x35, (x36.getD k3 d_Op).Key, (x36.getD k3 d_Op).Val, (x36.getD k3 d_Op).By⟩ : DOp)).getD k3 d_Op).Kind, (l_markText (IntKind.wrap .i64 (x35 + 1))), ((x36.set k3 (⟨x35, (x36.getD k3 d_Op).Key, (x36.getD k3 d_Op).Val, (x36.getD k3 d_Op).By⟩ : DOp)).getD k3 d_Op).Val, ((x36.set k3 (⟨x35, (x36.getD k3 d_Op).Key, (x36.getD k3 d_Op).Val, (x36.getD k3 d_Op).By⟩ : DOp)).getD k3 d_Op).By⟩ : DOp)).getD k3 d_Op).Key, (l_markText (IntKind.wrap .i64 ((IntKind.wrap .i64 (x35 + 1)) + 1))), (((x36.set k3 (⟨x35, (x36.getD k3 d_Op).Key, (x36.getD k3 d_Op).Val, (x36.getD k3 d_Op).By⟩ : DOp)).set k3 (⟨((x36.set k3 (⟨x35, (x36.getD k3 d_Op).Key, (x36.getD k3 d_Op).Val, (x36.getD k3 d_Op).By⟩ : DOp)).getD k3 d_Op).Kind, (l_markText (IntKind.wrap .i64 (x35 + 1))), ((x36.set k3 (⟨x35, (x36.getD k3 d_Op).Key, (x36.getD k3 d_Op).Val, (x36.getD k3 d_Op).By⟩ : DOp)).getD k3 d_Op).Val, ((x36.set k3 (⟨x35, (x36.getD k3 d_Op).Key, (x36.getD k3 d_Op).Val, (x36.getD k3 d_Op).By⟩ : DOp)).getD k3 d_Op).By⟩ : DOp)).getD k3 d_Op).By⟩ : DOp)).getD k3 d_Op).Key, ((((x36.set k3 (⟨x35, (x36.getD k3 d_Op).Key, (x36.getD k3 d_Op).Val, (x36.getD k3 d_Op).By⟩ : DOp)).set k3 (⟨((x36.set k3 (⟨x35, (x36.getD k3 d_Op).Key, (x36.getD k3 d_Op).Val, (x36.getD k3 d_Op).By⟩ : DOp)).getD k3 d_Op).Kind, (l_markText (IntKind.wrap .i64 (x35 + 1))), ((x36.set k3 (⟨x35, (x36.getD k3 d_Op).Key, (x36.getD k3 d_Op).Val, (x36.getD k3 d_Op).By⟩ : DOp)).getD k3 d_Op).Val, ((x36.set k3 (⟨x35, (x36.getD k3 d_Op).Key, (x36.getD k3 d_Op).Val, (x36.getD k3 d_Op).By⟩ : DOp)).getD k3 d_Op).By⟩ : DOp)).set k3 (⟨(((x36.set k3 (⟨x35, (x36.getD k3 d_Op).Key, (x36.getD k3 d_Op).Val, (x36.getD k3 d_Op).By⟩ : DOp)).set k3 (⟨((x36.set k3 (⟨x35, (x36.getD k3 d_Op).Key, (x36.getD k3 d_Op).Val, (x36.getD k3 d_Op).By⟩ : DOp)).getD k3 d_Op).Kind, (l_markText (IntKind.wrap .i64 (x35 + 1))), ((x36.set k3 (⟨x35, (x36.getD k3 d_Op).Key, (x36.getD k3 d_Op).Val, (x36.getD k3 d_Op).By⟩ : DOp)).getD k3 d_Op).Val, ((x36.set k3 (⟨x35, (x36.getD k3 d_Op).Key, (x36.getD k3 d_Op).Val, (x36.getD k3 d_Op).By⟩ : DOp)).getD k3 d_Op).By⟩ : DOp)).getD k3 d_Op).Kind, (((x36.set k3 (⟨x35, (x36.getD k3 d_Op).Key, (x36.getD k3 d_Op).Val, (x36.getD k3 d_Op).By⟩ : DOp)).set k3 (⟨((x36.set k3 (⟨x35, (x36.getD k3 d_Op).Key, (x36.getD k3 d_Op).Val, (x36.getD k3 d_Op).By⟩ : DOp)).getD k3 d_Op).Kind, (l_markText (IntKind.wrap .i64 (x35 + 1))), ((x36.set k3 (⟨x35, (x36.getD k3 d_Op).Key, (x36.getD k3 d_Op).Val, (x36.getD k3 d_Op).By⟩ : DOp)).getD k3 d_Op).Val, ((x36.set k3 (⟨x35, (x36.getD k3 d_Op).Key, (x36.getD k3 d_Op).Val, (x36.getD k3 d_Op).By⟩ : DOp)).getD k3 d_Op).By⟩ : DOp)).getD k3 d_Op).Key, (l_markText (IntKind.wrap .i64 ((IntKind.wrap .i64 (x35 + 1)) + 1))), (((x36.set k3 (⟨x35, (x36.getD k3 d_Op).Key, (x36.getD k3 d_Op).Val, (x36.getD k3 d_Op).By⟩ : DOp)).set k3 (⟨((x36.set k3 (⟨x35, (x36.getD k3 d_Op).Key, (x36.getD k3 d_Op).Val, (x36.getD k3 d_Op).By⟩ : DOp)).getD k3 d_Op).Kind, (l_markText (IntKind.wrap .i64 (x35 + 1))), ((x36.set k3 (⟨x35, (x36.getD k3 d_Op).Key, (x36.getD k3 d_Op).Val, (x36.getD k3 d_Op).By⟩ : DOp)).getD k3 d_Op).Val, ((x36.set k3 (⟨x35, (x36.getD k3 d_Op).Key, (x36.getD k3 d_Op).Val, (x36.getD k3 d_Op).By⟩ : DOp)).getD k3 d_Op).By⟩ : DOp)).getD k3 d_Op).By⟩ : DOp)).getD k3 d_Op).Val, IntKind.wrap .i64 ((IntKind.wrap .i64 ((IntKind.wrap .i64 (x35 + 1)) + 1)) + 1)⟩ : DOp)), rfl, hlt54, (by omega), rfl, rfl, rfl, hB85, (Mut.only (Mut.only (Mut.ex (Mut.only (Mut.ex (Mut.only hf50 hO60 (by simp only [InR, or_false]; omega)) hE63) hO70 (by simp only [InR, or_false]; omega)) hE73) hO80 (by simp only [InR, or_false]; omega)) hO86 (by simp only [InR, or_false]; omega)), (by first | omega | assumption | (simp only [IntKind.wrap_i64] at *; omega)), (loopM.cont hlt54 hB87).symm.trans hI44⟩
  ·refine CW.seq (CW.seq (CW.region (sd rfl (yl_move rfl rfl (sd rfl (yl_move rfl rfl (sd rfl (yl_len Try.un60 rfl rfl (sd rfl (yl_lss rfl rfl rfl (SeqR.done (tn ?_))))))))))))
   refine CW.cond_f rfl (lt_f hlt54) (CW.exit (tx (tx ?_)))
   have hL94 : loopM (B_l_markOpS_0 p_a p_k) (p_a.length - 0) 0 (p_k, p_a) = .done (x35, x36) := hI44.symm.trans (loopM.stop hlt54)
   refine bx (tn (CW.seq (CW.region (sd rfl (yl_move rfl rfl (sd rfl (yl_assign rfl rfl (SeqR.done (tn (CW.ret ?_))))))))))
   refine rr rfl (.cons rfl .nil) ?_
   have hM95 : (l_markOpS p_a p_k) = ((x35, x36)) := by simp only [l_markOpS, hL94, cond_true, cond_false, loopE_done, loopE_ret]
   rw [hM95]
   exact ⟨rfl, hf49, hf50⟩
end Go.Proofs.Ytjeafbkejeallaa
