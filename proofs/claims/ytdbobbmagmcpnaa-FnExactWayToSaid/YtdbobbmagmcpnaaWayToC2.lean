/- Way To: what each call returns, part 2. -/
import Derived.Test.YtdbobbmagmcpnaaWayToC1
set_option linter.unusedVariables false
set_option linter.unusedSimpArgs false
namespace Go.Proofs.Ytdbobbmagmcpnaa
open Go.RowKit Go.X
set_option maxRecDepth 100000 in
set_option maxHeartbeats 2000000 in
theorem c_i_GoodTable {A1 : Option Addr} {c1 : Nat} {A2 : Option Addr} {c2 : Nat} {w : World} (p_0 : DTable) (h1 : RdS w (Iv 0 w.heap.size) (RF e_Str) 1 A1 p_0.Cols.length c1 p_0.Cols) (h2 : RdS w (Iv 0 w.heap.size) (RF e_Idx) 3 A2 p_0.Idxs.length c2 p_0.Idxs) (o3 : ok_Table p_0) : Cal Try.prog 130 #[.agg #[.string (bs (p_0.Name)), .slice A1 p_0.Cols.length c1, .slice A2 p_0.Idxs.length c2]] w fun v w' => v = .bool ((i_GoodTable p_0)) ∧ Ex w w' := by
 have hol4 : p_0.Name.length ≤ 1073741824 := o3.1
 have hol5 := o3.2.1.1
 have hol6 := o3.2.2.1
 refine Cal.of (vs := [.agg #[.string (bs (p_0.Name)), .slice A1 p_0.Cols.length c1, .slice A2 p_0.Idxs.length c2]]) Try.func130 rfl Try.ntmps130 rfl (CW.seq (CW.region (sd rfl (yl_box (cs := [.string (bs (p_0.Name)), .slice A1 p_0.Cols.length c1, .slice A2 p_0.Idxs.length c2]) rfl rfl rfl ?_))))
 intro b7 w8 hs9 hz10 hB11 hE12
 refine sd rfl (yl_assign rfl rfl (SeqR.done (tn (CW.seq (CW.seq (CW.region (sd rfl (yl_fieldAddr Try.fd36_0 rfl rfl (sd rfl (yl_load1 Try.ty9 rfl rfl ((hB11.cell 0).trans rfl) (sd rfl (yl_call Try.en175 rfl (opvs_cons rfl (opvs_cons rfl opvs_nil)) (Cal.mono (c_i_areLetters p_0.Name 1 o3.1) ?_)))))))))))))
 rintro v14 w13 ⟨rfl, hE15⟩
 have hE15z := Ex.size hE15
 refine sd rfl (yl_not rfl rfl (sd rfl (yl_move rfl rfl (bcase (i_areLetters p_0.Name 1) (fun hb16 => ?_) (fun hb16 => ?_)))))
 ·refine sy rfl rfl (not_t hb16) (yl_fieldAddr Try.fd36_1 rfl rfl ?_)
  have q17 := Box.ex hB11 hE15
  refine sy rfl rfl (not_t hb16) (yl_load1 Try.ty22 rfl rfl ((q17.cell 1).trans rfl) (sy rfl rfl (not_t hb16) (yl_len Try.un22 rfl rfl (sy rfl rfl (not_t hb16) (yl_call Try.en77 rfl (opvs_cons rfl (opvs_cons rfl (opvs_cons rfl opvs_nil))) (Cal.mono (c_i_within (p_0.Cols.length : Int) 2 4) ?_))))))
  rintro v19 w18 ⟨rfl, hE20⟩
  have hE20z := Ex.size hE20
  refine sy rfl rfl (not_t hb16) (yl_not rfl rfl (sd rfl (yl_pick_f rfl rfl (not_t hb16) rfl (sd rfl (yl_move rfl rfl (bcase (i_within (p_0.Cols.length : Int) 2 4) (fun hb21 => ?_) (fun hb21 => ?_)))))))
  ·have hb21p := f_within hb21
   refine sy rfl rfl (not_t hb21) (yl_fieldAddr Try.fd36_2 rfl rfl ?_)
   have q22 := Box.ex q17 hE20
   refine sy rfl rfl (not_t hb21) (yl_load1 Try.ty34 rfl rfl ((q22.cell 2).trans rfl) (sy rfl rfl (not_t hb21) (yl_len Try.un34 rfl rfl (sy rfl rfl (not_t hb21) (yl_gtr rfl rfl rfl (sd rfl (yl_pick_f rfl rfl (not_t hb21) rfl (SeqR.done (tn (bcase (decide (3 < (p_0.Idxs.length : Int))) (fun hb23 => ?_) (fun hb23 => ?_)))))))))))
   ·have hb23p := dec_t hb23
    refine CW.cond_t rfl hb23 (CW.seq (CW.region (sd rfl (yl_assign rfl rfl (SeqR.done (tn (CW.ret (tr (rr rfl (.cons rfl .nil) ?_)))))))))
    have hM24 : (i_GoodTable p_0) = (false) := by simp only [i_GoodTable, hb16, hb21, hb23, cond_true, cond_false, loopE_done, loopE_ret]
    rw [hM24]
    exact ⟨rfl, (Ex.trans (Ex.trans (Ex.trans (Ex.refl w) hE12) hE15) hE20)⟩
   ·have hb23p := dec_f hb23
    refine CW.cond_f rfl hb23 (CW.skip (tn (CW.seq (CW.seq (CW.region (sd rfl (yl_fieldAddr Try.fd36_1 rfl rfl (sd rfl (yl_load1 Try.ty22 rfl rfl ((q22.cell 1).trans rfl) (sd rfl (yl_len Try.un22 rfl rfl ?_)))))))))))
    refine sd rfl (yl_move rfl rfl (SeqR.done (tn (CW.block (CW.loop (fun m29 L30 w31 => ∃ (k28 : Nat), m29 = p_0.Cols.length - k28 ∧ k28 ≤ p_0.Cols.length ∧ w18.heap.size ≤ w31.heap.size ∧ lkp L30 1 = some (.pointer (some ⟨b7, 0, none⟩)) ∧ lkp L30 25 = some (.slice A1 p_0.Cols.length c1) ∧ lkp L30 26 = some (.int .i64 ((p_0.Cols.length : Int))) ∧ lkp L30 27 = some (.int .i64 ((k28 : Int))) ∧ Box w31 b7 36 [.string (bs (p_0.Name)), .slice A1 p_0.Cols.length c1, .slice A2 p_0.Idxs.length c2] ∧ RdS w31 (Iv 0 w.heap.size) (RF e_Str) 1 A1 p_0.Cols.length c1 p_0.Cols ∧ RdS w31 (Iv 0 w.heap.size) (RF e_Idx) 3 A2 p_0.Idxs.length c2 p_0.Idxs ∧ Ex w w31 ∧ loopM (B_i_GoodTable_0 p_0) (p_0.Cols.length - k28) k28 () = loopM (B_i_GoodTable_0 p_0) (p_0.Cols.length - 0) 0 ()) (p_0.Cols.length - 0) ?_ ?_)))))
    ·exact ⟨0, rfl, (by omega), Nat.le_refl _, rfl, rfl, rfl, rfl, q22, (RdS.ex good_Str (RdS.ex good_Str (RdS.ex good_Str h1 hE12) hE15) hE20), (RdS.ex good_Idx (RdS.ex good_Idx (RdS.ex good_Idx h2 hE12) hE15) hE20), (Ex.trans (Ex.trans (Ex.trans (Ex.refl w) hE12) hE15) hE20), rfl⟩
    ·rintro m41 L42 w43 ⟨k28, rfl, hk44, hsz46, hl47, hl48, hl49, hl50, hf51, hf52, hf53, hf54, hI45⟩
     refine CW.sub (Sub.cons hl47 (Sub.cons hl48 (Sub.cons hl49 (Sub.cons hl50 (Sub.nil _))))) ?_
     have hf51z := Box.lt hf51
     have hf54z := Ex.size hf54
     have hbg55 := RdS.big hf52
     rcases Nat.lt_or_ge k28 p_0.Cols.length with hlt56 | hlt56
     ·refine CW.seq (CW.region (sd rfl (yl_lss rfl rfl rfl (SeqR.done (tn (CW.seq (CW.cond_t rfl (lt_t hlt56) (CW.skip (tn ?_)))))))))
      refine CW.seq (CW.block (CW.seq (CW.region (sd rfl (yl_move rfl rfl ?_)))))
      obtain ⟨eb57, eo57, ec57, eA57, eS57, ebl57, el57, eR57, eC57⟩ := RdS.atD hf52 d_Str (i := k28) (by first | omega | assumption)
      obtain rfl := eR57
      have eC57 : Cells w43 eb57 (eo57 + k28 * 1) [.string (bs ((p_0.Cols.getD k28 d_Str)))] := eC57
      refine sd rfl (yl_indexAddrN Try.un22 Try.ty9 rfl rfl rfl eA57 (by first | omega | assumption | (simp only [IntKind.wrap_i64] at *; omega)) (sd rfl (yl_load1 Try.ty9 rfl rfl (eC57 0 _ rfl) (sd rfl (yl_assign rfl rfl (sd rfl (yl_assign rfl rfl (SeqR.done (tn (CW.seq (CW.region (sd rfl (yl_move rfl rfl ?_)))))))))))))
      refine sd rfl (yl_call Try.en175 rfl (opvs_cons rfl (opvs_cons rfl opvs_nil)) (Cal.mono (c_i_areLetters (p_0.Cols.getD k28 d_Str) 3 (okL.getD o3.2.1 ok_d_Str _)) ?_))
      rintro v59 w58 ⟨rfl, hE60⟩
      have hE60z := Ex.size hE60
      refine sd rfl (yl_not rfl rfl (sd rfl (yl_move rfl rfl (bcase (i_areLetters (p_0.Cols.getD k28 d_Str) 3) (fun hb61 => ?_) (fun hb61 => ?_)))))
      ·refine sy rfl rfl (not_t hb61) (yl_fieldAddr Try.fd36_1 rfl rfl ?_)
       have q62 := Box.ex hf51 hE60
       refine sy rfl rfl (not_t hb61) (yl_load1 Try.ty22 rfl rfl ((q62.cell 1).trans rfl) (sy rfl rfl (not_t hb61) (yl_move rfl rfl ?_)))
       have q63 := RdS.ex good_Str hf52 hE60
       obtain ⟨A64, c65, he68, h67⟩ := RdS.sl (RdS.drop (RdS.take q63 (k := k28) (by omega)) (k := 0) (by omega))
       have hrc69 := (q63).2.1
       refine sy rfl rfl (not_t hb61) (yl_sliceR (kl := .i64) (l := 0) (h := k28) Try.un22 Try.ty9 rfl rfl (.inl ⟨rfl, rfl⟩) (.inr ⟨_, rfl, rfl⟩) (by omega) (by omega) he68 (sy rfl rfl (not_t hb61) (yl_move rfl rfl (sy rfl rfl (not_t hb61) (yl_call Try.en176 rfl (opvs_cons rfl (opvs_cons rfl opvs_nil)) (Cal.mono (c_g_slices_Contains_string (p_0.Cols.take k28) (p_0.Cols.getD k28 d_Str) (RdS.up h67 good_Str) (okL.take o3.2.1 _) (okL.getD o3.2.1 ok_d_Str _)) ?_))))))
       rintro v71 w70 ⟨rfl, hE72⟩
       have hE72z := Ex.size hE72
       refine sd rfl (yl_pick_f rfl rfl (not_t hb61) rfl (SeqR.done (tn (bcase (g_slices_Contains_string (p_0.Cols.take k28) (p_0.Cols.getD k28 d_Str)) (fun hb73 => ?_) (fun hb73 => ?_)))))
       ·refine CW.cond_t rfl hb73 (CW.seq (CW.region (sd rfl (yl_assign rfl rfl (SeqR.done (tn (CW.ret (br (tr ?_)))))))))
        refine tr ?_
        have hB75 : B_i_GoodTable_0 p_0 k28 () = .ret false := by simp only [B_i_GoodTable_0, hb16, hb21, hb23, hb61, hb73, cond_true, cond_false, loopE_done, loopE_ret]
        have hL74 : loopM (B_i_GoodTable_0 p_0) (p_0.Cols.length - 0) 0 () = .ret false := hI45.symm.trans (loopM.ret hlt56 hB75)
        refine br (tr (rr rfl (.cons rfl .nil) ?_))
        have hM76 : (i_GoodTable p_0) = (false) := by simp only [i_GoodTable, hb16, hb21, hb23, hb61, hb73, hL74, cond_true, cond_false, loopE_done, loopE_ret]
        rw [hM76]
        exact ⟨rfl, (Ex.trans (Ex.trans hf54 hE60) hE72)⟩
       ·refine CW.cond_f rfl hb73 (CW.skip (bn (tn (CW.region (sd rfl (yl_inc rfl rfl rfl (by omega) (sd rfl (yl_move rfl rfl (SeqR.done (tn ?_))))))))))
        have hB79 : B_i_GoodTable_0 p_0 k28 () = .cont () := by simp only [B_i_GoodTable_0, hb16, hb21, hb23, hb61, hb73, cond_true, cond_false, loopE_done, loopE_ret]
        exact ⟨p_0.Cols.length - (k28 + 1), by omega, k28 + 1, rfl, hlt56, (by omega), rfl, rfl, rfl, rfl, (Box.ex q62 hE72), (RdS.ex good_Str q63 hE72), (RdS.ex good_Idx (RdS.ex good_Idx hf53 hE60) hE72), (Ex.trans (Ex.trans hf54 hE60) hE72), (loopM.cont hlt56 hB79).symm.trans hI45⟩
      ·refine sz rfl rfl (not_f hb61) (sz rfl rfl (not_f hb61) (sz rfl rfl (not_f hb61) (sz rfl rfl (not_f hb61) (sz rfl rfl (not_f hb61) (sz rfl rfl (not_f hb61) (sd rfl (yl_pick_t rfl rfl (not_f hb61) rfl (SeqR.done (tn ?_)))))))))
       refine CW.cond_t rfl rfl (CW.seq (CW.region (sd rfl (yl_assign rfl rfl (SeqR.done (tn (CW.ret (br (tr ?_)))))))))
       refine tr ?_
       have hB87 : B_i_GoodTable_0 p_0 k28 () = .ret false := by simp only [B_i_GoodTable_0, hb16, hb21, hb23, hb61, cond_true, cond_false, loopE_done, loopE_ret]
       have hL86 : loopM (B_i_GoodTable_0 p_0) (p_0.Cols.length - 0) 0 () = .ret false := hI45.symm.trans (loopM.ret hlt56 hB87)
       refine br (tr (rr rfl (.cons rfl .nil) ?_))
       have hM88 : (i_GoodTable p_0) = (false) := by simp only [i_GoodTable, hb16, hb21, hb23, hb61, hL86, cond_true, cond_false, loopE_done, loopE_ret]
       rw [hM88]
       exact ⟨rfl, (Ex.trans hf54 hE60)⟩
     ·refine CW.seq (CW.region (sd rfl (yl_lss rfl rfl rfl (SeqR.done (tn (CW.seq (CW.cond_f rfl (lt_f hlt56) (CW.exit (tx ?_)))))))))
      refine tx ?_
      have hL90 : loopM (B_i_GoodTable_0 p_0) (p_0.Cols.length - 0) 0 () = .done () := hI45.symm.trans (loopM.stop hlt56)
      refine bx (tn (CW.seq (CW.seq (CW.region (sd rfl (yl_fieldAddr Try.fd36_2 rfl rfl (sd rfl (yl_load1 Try.ty34 rfl rfl ((hf51.cell 2).trans rfl) (sd rfl (yl_len Try.un34 rfl rfl (sd rfl (yl_move rfl rfl ?_))))))))))))
      refine SeqR.done (tn (CW.block (CW.loop (fun m129 L130 w131 => ∃ (k91 : Nat), m129 = p_0.Idxs.length - k91 ∧ k91 ≤ p_0.Idxs.length ∧ w43.heap.size ≤ w131.heap.size ∧ lkp L130 1 = some (.pointer (some ⟨b7, 0, none⟩)) ∧ lkp L130 45 = some (.slice A2 p_0.Idxs.length c2) ∧ lkp L130 46 = some (.int .i64 ((p_0.Idxs.length : Int))) ∧ lkp L130 47 = some (.int .i64 ((k91 : Int))) ∧ Box w131 b7 36 [.string (bs (p_0.Name)), .slice A1 p_0.Cols.length c1, .slice A2 p_0.Idxs.length c2] ∧ RdS w131 (Iv 0 w.heap.size) (RF e_Str) 1 A1 p_0.Cols.length c1 p_0.Cols ∧ RdS w131 (Iv 0 w.heap.size) (RF e_Idx) 3 A2 p_0.Idxs.length c2 p_0.Idxs ∧ Ex w w131 ∧ loopM (B_i_GoodTable_1 p_0) (p_0.Idxs.length - k91) k91 () = loopM (B_i_GoodTable_1 p_0) (p_0.Idxs.length - 0) 0 ()) (p_0.Idxs.length - 0) ?_ ?_)))
      ·exact ⟨0, rfl, (by omega), Nat.le_refl _, rfl, rfl, rfl, rfl, hf51, hf52, hf53, hf54, rfl⟩
      ·rintro m132 L133 w134 ⟨k91, rfl, hk135, hsz137, hl138, hl139, hl140, hl141, hf142, hf143, hf144, hf145, hI136⟩
       refine CW.sub (Sub.cons hl138 (Sub.cons hl139 (Sub.cons hl140 (Sub.cons hl141 (Sub.nil _))))) ?_
       have hf142z := Box.lt hf142
       have hf145z := Ex.size hf145
       have hbg146 := RdS.big hf144
       rcases Nat.lt_or_ge k91 p_0.Idxs.length with hlt147 | hlt147
       ·refine CW.seq (CW.region (sd rfl (yl_lss rfl rfl rfl (SeqR.done (tn (CW.seq (CW.cond_t rfl (lt_t hlt147) (CW.skip (tn ?_)))))))))
        refine CW.seq (CW.block (CW.seq (CW.region (sd rfl (yl_move rfl rfl ?_)))))
        obtain ⟨eb148, eo148, ec148, eA148, eS148, ebl148, el148, eR148, eC148⟩ := RdS.atD hf144 d_Idx (i := k91) (by first | omega | assumption)
        obtain rfl := eR148
        have eC148 : Cells w134 eb148 (eo148 + k91 * 3) [.string (bs ((p_0.Idxs.getD k91 d_Idx).Name)), .int .i64 ((p_0.Idxs.getD k91 d_Idx).Col), .int .i64 ((p_0.Idxs.getD k91 d_Idx).Stage)] := eC148
        refine sd rfl (yl_indexAddrN Try.un34 Try.ty171 rfl rfl rfl eA148 (by first | omega | assumption | (simp only [IntKind.wrap_i64] at *; omega)) (sd rfl (yl_loadN (cs := [.string (bs ((p_0.Idxs.getD k91 d_Idx).Name)), .int .i64 ((p_0.Idxs.getD k91 d_Idx).Col), .int .i64 ((p_0.Idxs.getD k91 d_Idx).Stage)]) Try.ty171 rfl rfl eC148 rfl (sd rfl (yl_alloc Try.ty171 (cs := [.string (bs (([] : Str))), .int .i64 (0), .int .i64 (0)]) rfl rfl ?_)))))
        intro b149 w150 hs151 hz152 hB153 hE154
        refine sd rfl (yl_assign rfl rfl (SeqR.u rfl rfl (yl_store (vs := [.string (bs ((p_0.Idxs.getD k91 d_Idx).Name)), .int .i64 ((p_0.Idxs.getD k91 d_Idx).Col), .int .i64 ((p_0.Idxs.getD k91 d_Idx).Stage)]) Try.ty171 rfl rfl rfl rfl rfl rfl hB153 (Nat.le_of_ble_eq_true rfl) ?_)))
        intro w155 hB156 hO157
        have hB156 : Box w155 b149 171 [.string (bs ((p_0.Idxs.getD k91 d_Idx).Name)), .int .i64 ((p_0.Idxs.getD k91 d_Idx).Col), .int .i64 ((p_0.Idxs.getD k91 d_Idx).Stage)] := hB156
        have hO157z := hO157.size
        refine SeqR.done (tn (CW.seq (bcase (i_areLetters ((p_0.Idxs.getD k91 d_Idx).Name) 1) (fun hb159 => ?_) (fun hb159 => ?_))))
        ·refine bcase (i_within ((p_0.Idxs.getD k91 d_Idx).Col) 1 (IntKind.wrap .i64 ((p_0.Cols.length : Int) - 1))) (fun hb164 => ?_) (fun hb164 => ?_)
         ·have hb164p := f_within hb164
          refine bcase (i_isStage ((p_0.Idxs.getD k91 d_Idx).Stage)) (fun hb170 => ?_) (fun hb170 => ?_)
          ·have hb170p := f_i_isStage hb170
           refine bcase (decide (0 < (k91 : Int))) (fun hb176 => ?_) (fun hb176 => ?_)
           ·have hb176p := dec_t hb176
            have q179 := Box.only (Box.ex hf142 hE154) hO157 (by omega)
            have q183 := RdS.only good_Idx (RdS.ex good_Idx hf144 hE154) hO157 (by simp only [Iv]; omega)
            obtain ⟨eb184, eo184, ec184, eA184, eS184, ebl184, el184, eR184, eC184⟩ := RdS.atD q183 d_Idx (i := (IntKind.wrap .i64 ((k91 : Int) - 1)).toNat) (by first | omega | assumption | (simp only [IntKind.wrap_i64] at *; omega))
            obtain rfl := eR184
            have eC184 : Cells w155 eb184 (eo184 + ((IntKind.wrap .i64 ((k91 : Int) - 1)).toNat) * 3) [.string (bs ((p_0.Idxs.getD ((IntKind.wrap .i64 ((k91 : Int) - 1)).toNat) d_Idx).Name)), .int .i64 ((p_0.Idxs.getD ((IntKind.wrap .i64 ((k91 : Int) - 1)).toNat) d_Idx).Col), .int .i64 ((p_0.Idxs.getD ((IntKind.wrap .i64 ((k91 : Int) - 1)).toNat) d_Idx).Stage)] := eC184
            refine CW.drawsI 36 (vgetI [DetI (.pointer (some ⟨b149, 0 + 0, none⟩)), DetI (.string (bs ((p_0.Idxs.getD k91 d_Idx).Name))), DetI (.bool ((i_areLetters ((p_0.Idxs.getD k91 d_Idx).Name) 1))), DetI (.bool (!(i_areLetters ((p_0.Idxs.getD k91 d_Idx).Name) 1))), DetI (.bool (!(i_areLetters ((p_0.Idxs.getD k91 d_Idx).Name) 1))), DetI (.pointer (some ⟨b149, 0 + 1, none⟩)), DetI (.int .i64 ((p_0.Idxs.getD k91 d_Idx).Col)), DetI (.pointer (some ⟨b7, 0 + 1, none⟩)), DetI (.slice A1 p_0.Cols.length c1), DetI (.int .i64 ((p_0.Cols.length : Int))), DetI (.int .i64 (IntKind.wrap .i64 ((p_0.Cols.length : Int) - 1))), DetI (.bool ((i_within ((p_0.Idxs.getD k91 d_Idx).Col) 1 (IntKind.wrap .i64 ((p_0.Cols.length : Int) - 1))))), DetI (.bool (!(i_within ((p_0.Idxs.getD k91 d_Idx).Col) 1 (IntKind.wrap .i64 ((p_0.Cols.length : Int) - 1))))), DetI (.bool (!(i_within ((p_0.Idxs.getD k91 d_Idx).Col) 1 (IntKind.wrap .i64 ((p_0.Cols.length : Int) - 1))))), DetI (.bool (!(i_within ((p_0.Idxs.getD k91 d_Idx).Col) 1 (IntKind.wrap .i64 ((p_0.Cols.length : Int) - 1))))), DetI (.pointer (some ⟨b149, 0 + 2, none⟩)), DetI (.int .i64 ((p_0.Idxs.getD k91 d_Idx).Stage)), DetI (.bool ((i_isStage ((p_0.Idxs.getD k91 d_Idx).Stage)))), DetI (.bool (!(i_isStage ((p_0.Idxs.getD k91 d_Idx).Stage)))), DetI (.bool (!(i_isStage ((p_0.Idxs.getD k91 d_Idx).Stage)))), DetI (.bool (!(i_isStage ((p_0.Idxs.getD k91 d_Idx).Stage)))), DetI (.int .i64 ((k91 : Int))), DetI (.bool (decide (0 < (k91 : Int)))), DetI (.bool (decide (0 < (k91 : Int)))), DetI (.pointer (some ⟨b149, 0 + 0, none⟩)), DetI (.string (bs ((p_0.Idxs.getD k91 d_Idx).Name))), DetI (.pointer (some ⟨b7, 0 + 2, none⟩)), DetI (.slice A2 p_0.Idxs.length c2), DetI (.int .i64 ((k91 : Int))), DetI (.int .i64 (IntKind.wrap .i64 ((k91 : Int) - 1))), DetI (.pointer (some ⟨eb184, eo184 + ((IntKind.wrap .i64 ((k91 : Int) - 1)).toNat) * 3, none⟩)), DetI (.pointer (some ⟨eb184, eo184 + ((IntKind.wrap .i64 ((k91 : Int) - 1)).toNat) * 3 + 0, none⟩)), DetI (.string (bs ((p_0.Idxs.getD ((IntKind.wrap .i64 ((k91 : Int) - 1)).toNat) d_Idx).Name))), DetI (.bool (sLe ((p_0.Idxs.getD k91 d_Idx).Name) ((p_0.Idxs.getD ((IntKind.wrap .i64 ((k91 : Int) - 1)).toNat) d_Idx).Name))), DetI (.bool (sLe ((p_0.Idxs.getD k91 d_Idx).Name) ((p_0.Idxs.getD ((IntKind.wrap .i64 ((k91 : Int) - 1)).toNat) d_Idx).Name))), DetI (.bool (sLe ((p_0.Idxs.getD k91 d_Idx).Name) ((p_0.Idxs.getD ((IntKind.wrap .i64 ((k91 : Int) - 1)).toNat) d_Idx).Name)))]) Try.follows rfl rfl rfl rfl rfl rfl (vgetI_stable ⟨StableI.det _, StableI.det _, StableI.det _, StableI.det _, StableI.det _, StableI.det _, StableI.det _, StableI.det _, StableI.det _, StableI.det _, StableI.det _, StableI.det _, StableI.det _, StableI.det _, StableI.det _, StableI.det _, StableI.det _, StableI.det _, StableI.det _, StableI.det _, StableI.det _, StableI.det _, StableI.det _, StableI.det _, StableI.det _, StableI.det _, StableI.det _, StableI.det _, StableI.det _, StableI.det _, StableI.det _, StableI.det _, StableI.det _, StableI.det _, StableI.det _, StableI.det _, trivial⟩) ⟨?_, ?_, ?_, ?_, ?_, ?_, ?_, ?_, ?_, ?_, ?_, ?_, ?_, ?_, ?_, ?_, ?_, ?_, ?_, ?_, ?_, ?_, ?_, ?_, ?_, ?_, ?_, ?_, ?_, ?_, ?_, ?_, ?_, ?_, ?_, ?_, trivial⟩ ?_
            ·exact fun _ _ h => os rfl ((yl_fieldAddr Try.fd171_0 rfl (h.old 6 _ rfl rfl) kI))
            ·exact fun _ _ h => os rfl ((yl_load1 Try.ty9 rfl (h.dt 0 52 rfl rfl rfl) (((Box.ex hB156 h.ex).cell 0).trans rfl) kI))
            ·intro L196 w197 hi198
             refine OpR.op' rfl (yl_call Try.en175 rfl (opvs_cons (hi198.dt 1 53 rfl rfl rfl) (opvs_cons rfl opvs_nil)) (Cal.mono (c_i_areLetters ((p_0.Idxs.getD k91 d_Idx).Name) 1 (okL.getD o3.2.2 ok_d_Idx _)) ?_))
             rintro v202 w201 ⟨rfl, hE203⟩
             exact ⟨rfl, hE203⟩
            ·exact fun _ _ h => os rfl ((yl_not rfl (h.dt 2 54 rfl rfl rfl) kI))
            ·exact fun _ _ h => os rfl ((yl_move rfl (h.dt 3 55 rfl rfl rfl) kI))
            ·exact fun _ _ h => OpR.want rfl rfl (h.dt 4 56 rfl rfl rfl) (not_t hb159) (Yl.sameI (yl_fieldAddr Try.fd171_1 rfl (h.old 6 _ rfl rfl) kI))
            ·exact fun _ _ h => OpR.want rfl rfl (h.dt 4 56 rfl rfl rfl) (not_t hb159) (Yl.sameI (yl_load1 Try.ty3 rfl (h.dt 5 57 rfl rfl rfl) (((Box.ex hB156 h.ex).cell 1).trans rfl) kI))
            ·exact fun _ _ h => OpR.want rfl rfl (h.dt 4 56 rfl rfl rfl) (not_t hb159) (Yl.sameI (yl_fieldAddr Try.fd36_1 rfl (h.old 1 _ rfl rfl) kI))
            ·exact fun _ _ h => OpR.want rfl rfl (h.dt 4 56 rfl rfl rfl) (not_t hb159) (Yl.sameI (yl_load1 Try.ty22 rfl (h.dt 7 59 rfl rfl rfl) (((Box.ex q179 h.ex).cell 1).trans rfl) kI))
            ·exact fun _ _ h => OpR.want rfl rfl (h.dt 4 56 rfl rfl rfl) (not_t hb159) (Yl.sameI (yl_len Try.un22 rfl (h.dt 8 60 rfl rfl rfl) kI))
            ·exact fun _ _ h => OpR.want rfl rfl (h.dt 4 56 rfl rfl rfl) (not_t hb159) (Yl.sameI (yl_sub rfl (h.dt 9 61 rfl rfl rfl) rfl kI))
            ·intro L252 w253 hi254
             refine OpR.want rfl rfl (hi254.dt 4 56 rfl rfl rfl) (not_t hb159) (yl_call Try.en77 rfl (opvs_cons (hi254.dt 6 58 rfl rfl rfl) (opvs_cons rfl (opvs_cons (hi254.dt 10 62 rfl rfl rfl) opvs_nil))) (Cal.mono (c_i_within ((p_0.Idxs.getD k91 d_Idx).Col) 1 (IntKind.wrap .i64 ((p_0.Cols.length : Int) - 1))) ?_))
             rintro v260 w259 ⟨rfl, hE261⟩
             exact ⟨rfl, hE261⟩
            ·exact fun _ _ h => OpR.want rfl rfl (h.dt 4 56 rfl rfl rfl) (not_t hb159) (Yl.sameI (yl_not rfl (h.dt 11 63 rfl rfl rfl) kI))
            ·exact fun _ _ h => os rfl ((yl_pick_f rfl (h.dt 4 56 rfl rfl rfl) (not_t hb159) (h.dt 12 64 rfl rfl rfl) kI))
            ·exact fun _ _ h => os rfl ((yl_move rfl (h.dt 13 65 rfl rfl rfl) kI))
            ·exact fun _ _ h => OpR.want rfl rfl (h.dt 14 66 rfl rfl rfl) (not_t hb164) (Yl.sameI (yl_fieldAddr Try.fd171_2 rfl (h.old 6 _ rfl rfl) kI))
            ·exact fun _ _ h => OpR.want rfl rfl (h.dt 14 66 rfl rfl rfl) (not_t hb164) (Yl.sameI (yl_load1 Try.ty3 rfl (h.dt 15 67 rfl rfl rfl) (((Box.ex hB156 h.ex).cell 2).trans rfl) kI))
            ·intro L292 w293 hi294
             refine OpR.want rfl rfl (hi294.dt 14 66 rfl rfl rfl) (not_t hb164) (yl_call Try.en93 rfl (opvs_cons (hi294.dt 16 68 rfl rfl rfl) opvs_nil) (Cal.mono (c_i_isStage ((p_0.Idxs.getD k91 d_Idx).Stage)) ?_))
             rintro v299 w298 ⟨rfl, hE300⟩
             exact ⟨rfl, hE300⟩
            ·exact fun _ _ h => OpR.want rfl rfl (h.dt 14 66 rfl rfl rfl) (not_t hb164) (Yl.sameI (yl_not rfl (h.dt 17 69 rfl rfl rfl) kI))
            ·exact fun _ _ h => os rfl ((yl_pick_f rfl (h.dt 14 66 rfl rfl rfl) (not_t hb164) (h.dt 18 70 rfl rfl rfl) kI))
            ·exact fun _ _ h => os rfl ((yl_move rfl (h.dt 19 71 rfl rfl rfl) kI))
            ·exact fun _ _ h => OpR.want rfl rfl (h.dt 20 72 rfl rfl rfl) (not_t hb170) (Yl.sameI (yl_move rfl (h.old 5 _ rfl rfl) kI))
            ·exact fun _ _ h => OpR.want rfl rfl (h.dt 20 72 rfl rfl rfl) (not_t hb170) (Yl.sameI (yl_gtr rfl (h.dt 21 73 rfl rfl rfl) rfl kI))
            ·exact fun _ _ h => OpR.want rfl rfl (h.dt 20 72 rfl rfl rfl) (not_t hb170) (Yl.sameI (yl_move rfl (h.dt 22 74 rfl rfl rfl) kI))
            ·exact fun _ _ h => OpR.want rfl rfl (h.dt 23 75 rfl rfl rfl) hb176 (Yl.sameI (yl_fieldAddr Try.fd171_0 rfl (h.old 6 _ rfl rfl) kI))
            ·exact fun _ _ h => OpR.want rfl rfl (h.dt 23 75 rfl rfl rfl) hb176 (Yl.sameI (yl_load1 Try.ty9 rfl (h.dt 24 76 rfl rfl rfl) (((Box.ex hB156 h.ex).cell 0).trans rfl) kI))
            ·exact fun _ _ h => OpR.want rfl rfl (h.dt 23 75 rfl rfl rfl) hb176 (Yl.sameI (yl_fieldAddr Try.fd36_2 rfl (h.old 1 _ rfl rfl) kI))
            ·exact fun _ _ h => OpR.want rfl rfl (h.dt 23 75 rfl rfl rfl) hb176 (Yl.sameI (yl_load1 Try.ty34 rfl (h.dt 26 78 rfl rfl rfl) (((Box.ex q179 h.ex).cell 2).trans rfl) kI))
            ·exact fun _ _ h => OpR.want rfl rfl (h.dt 23 75 rfl rfl rfl) hb176 (Yl.sameI (yl_move rfl (h.old 5 _ rfl rfl) kI))
            ·exact fun _ _ h => OpR.want rfl rfl (h.dt 23 75 rfl rfl rfl) hb176 (Yl.sameI (yl_sub rfl (h.dt 28 80 rfl rfl rfl) rfl kI))
            ·intro L374 w375 hi376
             have hE377 := hi376.ex
             have hE377z := Ex.size hE377
             exact OpR.want rfl rfl (hi376.dt 23 75 rfl rfl rfl) hb176 (Yl.sameI (yl_indexAddr Try.un34 Try.ty171 rfl (hi376.dt 27 79 rfl rfl rfl) (hi376.dt 29 81 rfl rfl rfl) eA184 (by first | omega | assumption | (simp only [IntKind.wrap_i64] at *; omega)) (by first | omega | assumption | (simp only [IntKind.wrap_i64] at *; omega)) kI))
            ·exact fun _ _ h => OpR.want rfl rfl (h.dt 23 75 rfl rfl rfl) hb176 (Yl.sameI (yl_fieldAddr Try.fd171_0 rfl (h.dt 30 82 rfl rfl rfl) kI))
            ·exact fun _ _ h => OpR.want rfl rfl (h.dt 23 75 rfl rfl rfl) hb176 (Yl.sameI (yl_load1 Try.ty9 rfl (h.dt 31 83 rfl rfl rfl) ((Cells.ex eC184 h.ex) 0 _ rfl) kI))
            ·exact fun _ _ h => OpR.want rfl rfl (h.dt 23 75 rfl rfl rfl) hb176 (Yl.sameI (yl_sleq (a := ((p_0.Idxs.getD k91 d_Idx).Name)) (b := ((p_0.Idxs.getD ((IntKind.wrap .i64 ((k91 : Int) - 1)).toNat) d_Idx).Name)) rfl (h.dt 25 77 rfl rfl rfl) (h.dt 32 84 rfl rfl rfl) kI))
            ·exact fun _ _ h => OpR.want rfl rfl (h.dt 20 72 rfl rfl rfl) (not_t hb170) (Yl.sameI (yl_pick_t rfl (h.dt 23 75 rfl rfl rfl) hb176 (h.dt 33 85 rfl rfl rfl) kI))
            ·exact fun _ _ h => os rfl ((yl_pick_f rfl (h.dt 20 72 rfl rfl rfl) (not_t hb170) (h.dt 34 86 rfl rfl rfl) kI))
            ·intro fl417 fh418 L414 w415 hp416
             have hE419 := hp416.ex
             have hE419z := Ex.size hE419
             refine SeqR.done (tn (CW.sub (Sub.cons (d := 1) (hp416.old 1 _ rfl rfl) (Sub.cons (d := 45) (hp416.old 45 _ rfl rfl) (Sub.cons (d := 46) (hp416.old 46 _ rfl rfl) (Sub.cons (d := 47) (hp416.old 47 _ rfl rfl) (Sub.cons (d := 57) (hp416.nt 5 57 rfl rfl rfl) (Sub.cons (d := 58) (hp416.nt 6 58 rfl rfl rfl) (Sub.cons (d := 59) (hp416.nt 7 59 rfl rfl rfl) (Sub.cons (d := 60) (hp416.nt 8 60 rfl rfl rfl) (Sub.cons (d := 61) (hp416.nt 9 61 rfl rfl rfl) (Sub.cons (d := 62) (hp416.nt 10 62 rfl rfl rfl) (Sub.cons (d := 63) (hp416.nt 11 63 rfl rfl rfl) (Sub.cons (d := 64) (hp416.nt 12 64 rfl rfl rfl) (Sub.cons (d := 67) (hp416.nt 15 67 rfl rfl rfl) (Sub.cons (d := 68) (hp416.nt 16 68 rfl rfl rfl) (Sub.cons (d := 69) (hp416.nt 17 69 rfl rfl rfl) (Sub.cons (d := 70) (hp416.nt 18 70 rfl rfl rfl) (Sub.cons (d := 73) (hp416.nt 21 73 rfl rfl rfl) (Sub.cons (d := 74) (hp416.nt 22 74 rfl rfl rfl) (Sub.cons (d := 75) (hp416.nt 23 75 rfl rfl rfl) (Sub.cons (d := 76) (hp416.nt 24 76 rfl rfl rfl) (Sub.cons (d := 77) (hp416.nt 25 77 rfl rfl rfl) (Sub.cons (d := 78) (hp416.nt 26 78 rfl rfl rfl) (Sub.cons (d := 79) (hp416.nt 27 79 rfl rfl rfl) (Sub.cons (d := 80) (hp416.nt 28 80 rfl rfl rfl) (Sub.cons (d := 81) (hp416.nt 29 81 rfl rfl rfl) (Sub.cons (d := 82) (hp416.nt 30 82 rfl rfl rfl) (Sub.cons (d := 83) (hp416.nt 31 83 rfl rfl rfl) (Sub.cons (d := 84) (hp416.nt 32 84 rfl rfl rfl) (Sub.cons (d := 85) (hp416.nt 33 85 rfl rfl rfl) (Sub.cons (d := 86) (hp416.nt 34 86 rfl rfl rfl) (Sub.cons (d := 87) (hp416.nt 35 87 rfl rfl rfl) (Sub.nil _)))))))))))))))))))))))))))))))) ?_))
             refine bcase (sLe ((p_0.Idxs.getD k91 d_Idx).Name) ((p_0.Idxs.getD ((IntKind.wrap .i64 ((k91 : Int) - 1)).toNat) d_Idx).Name)) (fun hb451 => ?_) (fun hb451 => ?_)
             ·refine CW.cond_t rfl hb451 (CW.seq (CW.region (sd rfl (yl_assign rfl rfl (SeqR.done (tn (CW.ret (br (tr ?_)))))))))
              refine tr ?_
              have hB453 : B_i_GoodTable_1 p_0 k91 () = .ret false := by simp only [B_i_GoodTable_1, hb16, hb21, hb23, hb159, hb164, hb170, hb176, hb451, hL90, cond_true, cond_false, loopE_done, loopE_ret]
              have hL452 : loopM (B_i_GoodTable_1 p_0) (p_0.Idxs.length - 0) 0 () = .ret false := hI136.symm.trans (loopM.ret hlt147 hB453)
              refine br (tr (rr rfl (.cons rfl .nil) ?_))
              have hM454 : (i_GoodTable p_0) = (false) := by simp only [i_GoodTable, hb16, hb21, hb23, hb159, hb164, hb170, hb176, hb451, hL90, hL452, cond_true, cond_false, loopE_done, loopE_ret]
              rw [hM454]
              exact ⟨rfl, (Ex.trans (Below.only (Ex.trans hf145 hE154) hO157 (by omega)) hE419)⟩
             ·refine CW.cond_f rfl hb451 (CW.skip (bn (tn (CW.region (sd rfl (yl_inc rfl rfl rfl (by omega) (sd rfl (yl_move rfl rfl (SeqR.done (tn ?_))))))))))
              have hB458 : B_i_GoodTable_1 p_0 k91 () = .cont () := by simp only [B_i_GoodTable_1, hb16, hb21, hb23, hb159, hb164, hb170, hb176, hb451, hL90, cond_true, cond_false, loopE_done, loopE_ret]
              exact ⟨p_0.Idxs.length - (k91 + 1), by omega, k91 + 1, rfl, hlt147, (by omega), rfl, rfl, rfl, rfl, (Box.ex q179 hE419), (RdS.ex good_Str (RdS.only good_Str (RdS.ex good_Str hf143 hE154) hO157 (by simp only [Iv]; omega)) hE419), (RdS.ex good_Idx q183 hE419), (Ex.trans (Below.only (Ex.trans hf145 hE154) hO157 (by omega)) hE419), (loopM.cont hlt147 hB458).symm.trans hI136⟩
           ·have hb176p := dec_f hb176
            have q469 := Box.only (Box.ex hf142 hE154) hO157 (by omega)
            refine CW.drawsI 36 (vgetI [DetI (.pointer (some ⟨b149, 0 + 0, none⟩)), DetI (.string (bs ((p_0.Idxs.getD k91 d_Idx).Name))), DetI (.bool ((i_areLetters ((p_0.Idxs.getD k91 d_Idx).Name) 1))), DetI (.bool (!(i_areLetters ((p_0.Idxs.getD k91 d_Idx).Name) 1))), DetI (.bool (!(i_areLetters ((p_0.Idxs.getD k91 d_Idx).Name) 1))), DetI (.pointer (some ⟨b149, 0 + 1, none⟩)), DetI (.int .i64 ((p_0.Idxs.getD k91 d_Idx).Col)), DetI (.pointer (some ⟨b7, 0 + 1, none⟩)), DetI (.slice A1 p_0.Cols.length c1), DetI (.int .i64 ((p_0.Cols.length : Int))), DetI (.int .i64 (IntKind.wrap .i64 ((p_0.Cols.length : Int) - 1))), DetI (.bool ((i_within ((p_0.Idxs.getD k91 d_Idx).Col) 1 (IntKind.wrap .i64 ((p_0.Cols.length : Int) - 1))))), DetI (.bool (!(i_within ((p_0.Idxs.getD k91 d_Idx).Col) 1 (IntKind.wrap .i64 ((p_0.Cols.length : Int) - 1))))), DetI (.bool (!(i_within ((p_0.Idxs.getD k91 d_Idx).Col) 1 (IntKind.wrap .i64 ((p_0.Cols.length : Int) - 1))))), DetI (.bool (!(i_within ((p_0.Idxs.getD k91 d_Idx).Col) 1 (IntKind.wrap .i64 ((p_0.Cols.length : Int) - 1))))), DetI (.pointer (some ⟨b149, 0 + 2, none⟩)), DetI (.int .i64 ((p_0.Idxs.getD k91 d_Idx).Stage)), DetI (.bool ((i_isStage ((p_0.Idxs.getD k91 d_Idx).Stage)))), DetI (.bool (!(i_isStage ((p_0.Idxs.getD k91 d_Idx).Stage)))), DetI (.bool (!(i_isStage ((p_0.Idxs.getD k91 d_Idx).Stage)))), DetI (.bool (!(i_isStage ((p_0.Idxs.getD k91 d_Idx).Stage)))), DetI (.int .i64 ((k91 : Int))), DetI (.bool (decide (0 < (k91 : Int)))), DetI (.bool (decide (0 < (k91 : Int)))), DetI (undef), DetI (undef), DetI (undef), DetI (undef), DetI (undef), DetI (undef), DetI (undef), DetI (undef), DetI (undef), DetI (undef), DetI (.bool (false)), DetI (.bool (false))]) Try.follows rfl rfl rfl rfl rfl rfl (vgetI_stable ⟨StableI.det _, StableI.det _, StableI.det _, StableI.det _, StableI.det _, StableI.det _, StableI.det _, StableI.det _, StableI.det _, StableI.det _, StableI.det _, StableI.det _, StableI.det _, StableI.det _, StableI.det _, StableI.det _, StableI.det _, StableI.det _, StableI.det _, StableI.det _, StableI.det _, StableI.det _, StableI.det _, StableI.det _, StableI.det _, StableI.det _, StableI.det _, StableI.det _, StableI.det _, StableI.det _, StableI.det _, StableI.det _, StableI.det _, StableI.det _, StableI.det _, StableI.det _, trivial⟩) ⟨?_, ?_, ?_, ?_, ?_, ?_, ?_, ?_, ?_, ?_, ?_, ?_, ?_, ?_, ?_, ?_, ?_, ?_, ?_, ?_, ?_, ?_, ?_, ?_, ?_, ?_, ?_, ?_, ?_, ?_, ?_, ?_, ?_, ?_, ?_, ?_, trivial⟩ ?_
            ·exact fun _ _ h => os rfl ((yl_fieldAddr Try.fd171_0 rfl (h.old 6 _ rfl rfl) kI))
            ·exact fun _ _ h => os rfl ((yl_load1 Try.ty9 rfl (h.dt 0 52 rfl rfl rfl) (((Box.ex hB156 h.ex).cell 0).trans rfl) kI))
            ·intro L483 w484 hi485
             refine OpR.op' rfl (yl_call Try.en175 rfl (opvs_cons (hi485.dt 1 53 rfl rfl rfl) (opvs_cons rfl opvs_nil)) (Cal.mono (c_i_areLetters ((p_0.Idxs.getD k91 d_Idx).Name) 1 (okL.getD o3.2.2 ok_d_Idx _)) ?_))
             rintro v489 w488 ⟨rfl, hE490⟩
             exact ⟨rfl, hE490⟩
            ·exact fun _ _ h => os rfl ((yl_not rfl (h.dt 2 54 rfl rfl rfl) kI))
            ·exact fun _ _ h => os rfl ((yl_move rfl (h.dt 3 55 rfl rfl rfl) kI))
            ·exact fun _ _ h => OpR.want rfl rfl (h.dt 4 56 rfl rfl rfl) (not_t hb159) (Yl.sameI (yl_fieldAddr Try.fd171_1 rfl (h.old 6 _ rfl rfl) kI))
            ·exact fun _ _ h => OpR.want rfl rfl (h.dt 4 56 rfl rfl rfl) (not_t hb159) (Yl.sameI (yl_load1 Try.ty3 rfl (h.dt 5 57 rfl rfl rfl) (((Box.ex hB156 h.ex).cell 1).trans rfl) kI))
            ·exact fun _ _ h => OpR.want rfl rfl (h.dt 4 56 rfl rfl rfl) (not_t hb159) (Yl.sameI (yl_fieldAddr Try.fd36_1 rfl (h.old 1 _ rfl rfl) kI))
            ·exact fun _ _ h => OpR.want rfl rfl (h.dt 4 56 rfl rfl rfl) (not_t hb159) (Yl.sameI (yl_load1 Try.ty22 rfl (h.dt 7 59 rfl rfl rfl) (((Box.ex q469 h.ex).cell 1).trans rfl) kI))
            ·exact fun _ _ h => OpR.want rfl rfl (h.dt 4 56 rfl rfl rfl) (not_t hb159) (Yl.sameI (yl_len Try.un22 rfl (h.dt 8 60 rfl rfl rfl) kI))
            ·exact fun _ _ h => OpR.want rfl rfl (h.dt 4 56 rfl rfl rfl) (not_t hb159) (Yl.sameI (yl_sub rfl (h.dt 9 61 rfl rfl rfl) rfl kI))
            ·intro L539 w540 hi541
             refine OpR.want rfl rfl (hi541.dt 4 56 rfl rfl rfl) (not_t hb159) (yl_call Try.en77 rfl (opvs_cons (hi541.dt 6 58 rfl rfl rfl) (opvs_cons rfl (opvs_cons (hi541.dt 10 62 rfl rfl rfl) opvs_nil))) (Cal.mono (c_i_within ((p_0.Idxs.getD k91 d_Idx).Col) 1 (IntKind.wrap .i64 ((p_0.Cols.length : Int) - 1))) ?_))
             rintro v547 w546 ⟨rfl, hE548⟩
             exact ⟨rfl, hE548⟩
            ·exact fun _ _ h => OpR.want rfl rfl (h.dt 4 56 rfl rfl rfl) (not_t hb159) (Yl.sameI (yl_not rfl (h.dt 11 63 rfl rfl rfl) kI))
            ·exact fun _ _ h => os rfl ((yl_pick_f rfl (h.dt 4 56 rfl rfl rfl) (not_t hb159) (h.dt 12 64 rfl rfl rfl) kI))
            ·exact fun _ _ h => os rfl ((yl_move rfl (h.dt 13 65 rfl rfl rfl) kI))
            ·exact fun _ _ h => OpR.want rfl rfl (h.dt 14 66 rfl rfl rfl) (not_t hb164) (Yl.sameI (yl_fieldAddr Try.fd171_2 rfl (h.old 6 _ rfl rfl) kI))
            ·exact fun _ _ h => OpR.want rfl rfl (h.dt 14 66 rfl rfl rfl) (not_t hb164) (Yl.sameI (yl_load1 Try.ty3 rfl (h.dt 15 67 rfl rfl rfl) (((Box.ex hB156 h.ex).cell 2).trans rfl) kI))
            ·intro L579 w580 hi581
             refine OpR.want rfl rfl (hi581.dt 14 66 rfl rfl rfl) (not_t hb164) (yl_call Try.en93 rfl (opvs_cons (hi581.dt 16 68 rfl rfl rfl) opvs_nil) (Cal.mono (c_i_isStage ((p_0.Idxs.getD k91 d_Idx).Stage)) ?_))
             rintro v586 w585 ⟨rfl, hE587⟩
             exact ⟨rfl, hE587⟩
            ·exact fun _ _ h => OpR.want rfl rfl (h.dt 14 66 rfl rfl rfl) (not_t hb164) (Yl.sameI (yl_not rfl (h.dt 17 69 rfl rfl rfl) kI))
            ·exact fun _ _ h => os rfl ((yl_pick_f rfl (h.dt 14 66 rfl rfl rfl) (not_t hb164) (h.dt 18 70 rfl rfl rfl) kI))
            ·exact fun _ _ h => os rfl ((yl_move rfl (h.dt 19 71 rfl rfl rfl) kI))
            ·exact fun _ _ h => OpR.want rfl rfl (h.dt 20 72 rfl rfl rfl) (not_t hb170) (Yl.sameI (yl_move rfl (h.old 5 _ rfl rfl) kI))
            ·exact fun _ _ h => OpR.want rfl rfl (h.dt 20 72 rfl rfl rfl) (not_t hb170) (Yl.sameI (yl_gtr rfl (h.dt 21 73 rfl rfl rfl) rfl kI))
            ·exact fun _ _ h => OpR.want rfl rfl (h.dt 20 72 rfl rfl rfl) (not_t hb170) (Yl.sameI (yl_move rfl (h.dt 22 74 rfl rfl rfl) kI))
            ·exact fun _ _ h => OpR.skip rfl rfl (h.dt 23 75 rfl rfl rfl) hb176 ⟨rfl, Ex.refl _⟩
            ·exact fun _ _ h => OpR.skip rfl rfl (h.dt 23 75 rfl rfl rfl) hb176 ⟨rfl, Ex.refl _⟩
            ·exact fun _ _ h => OpR.skip rfl rfl (h.dt 23 75 rfl rfl rfl) hb176 ⟨rfl, Ex.refl _⟩
            ·exact fun _ _ h => OpR.skip rfl rfl (h.dt 23 75 rfl rfl rfl) hb176 ⟨rfl, Ex.refl _⟩
            ·exact fun _ _ h => OpR.skip rfl rfl (h.dt 23 75 rfl rfl rfl) hb176 ⟨rfl, Ex.refl _⟩
            ·exact fun _ _ h => OpR.skip rfl rfl (h.dt 23 75 rfl rfl rfl) hb176 ⟨rfl, Ex.refl _⟩
            ·exact fun _ _ h => OpR.skip rfl rfl (h.dt 23 75 rfl rfl rfl) hb176 ⟨rfl, Ex.refl _⟩
            ·exact fun _ _ h => OpR.skip rfl rfl (h.dt 23 75 rfl rfl rfl) hb176 ⟨rfl, Ex.refl _⟩
            ·exact fun _ _ h => OpR.skip rfl rfl (h.dt 23 75 rfl rfl rfl) hb176 ⟨rfl, Ex.refl _⟩
            ·exact fun _ _ h => OpR.skip rfl rfl (h.dt 23 75 rfl rfl rfl) hb176 ⟨rfl, Ex.refl _⟩
            ·exact fun _ _ h => OpR.want rfl rfl (h.dt 20 72 rfl rfl rfl) (not_t hb170) (Yl.sameI (yl_pick_f rfl (h.dt 23 75 rfl rfl rfl) hb176 rfl kI))
            ·exact fun _ _ h => os rfl ((yl_pick_f rfl (h.dt 20 72 rfl rfl rfl) (not_t hb170) (h.dt 34 86 rfl rfl rfl) kI))
            ·intro fl689 fh690 L686 w687 hp688
             have hE691 := hp688.ex
             have hE691z := Ex.size hE691
             refine SeqR.done (tn (CW.sub (Sub.cons (d := 1) (hp688.old 1 _ rfl rfl) (Sub.cons (d := 45) (hp688.old 45 _ rfl rfl) (Sub.cons (d := 46) (hp688.old 46 _ rfl rfl) (Sub.cons (d := 47) (hp688.old 47 _ rfl rfl) (Sub.cons (d := 57) (hp688.nt 5 57 rfl rfl rfl) (Sub.cons (d := 58) (hp688.nt 6 58 rfl rfl rfl) (Sub.cons (d := 59) (hp688.nt 7 59 rfl rfl rfl) (Sub.cons (d := 60) (hp688.nt 8 60 rfl rfl rfl) (Sub.cons (d := 61) (hp688.nt 9 61 rfl rfl rfl) (Sub.cons (d := 62) (hp688.nt 10 62 rfl rfl rfl) (Sub.cons (d := 63) (hp688.nt 11 63 rfl rfl rfl) (Sub.cons (d := 64) (hp688.nt 12 64 rfl rfl rfl) (Sub.cons (d := 67) (hp688.nt 15 67 rfl rfl rfl) (Sub.cons (d := 68) (hp688.nt 16 68 rfl rfl rfl) (Sub.cons (d := 69) (hp688.nt 17 69 rfl rfl rfl) (Sub.cons (d := 70) (hp688.nt 18 70 rfl rfl rfl) (Sub.cons (d := 73) (hp688.nt 21 73 rfl rfl rfl) (Sub.cons (d := 74) (hp688.nt 22 74 rfl rfl rfl) (Sub.cons (d := 75) (hp688.nt 23 75 rfl rfl rfl) (Sub.cons (d := 76) (hp688.nt 24 76 rfl rfl rfl) (Sub.cons (d := 77) (hp688.nt 25 77 rfl rfl rfl) (Sub.cons (d := 78) (hp688.nt 26 78 rfl rfl rfl) (Sub.cons (d := 79) (hp688.nt 27 79 rfl rfl rfl) (Sub.cons (d := 80) (hp688.nt 28 80 rfl rfl rfl) (Sub.cons (d := 81) (hp688.nt 29 81 rfl rfl rfl) (Sub.cons (d := 82) (hp688.nt 30 82 rfl rfl rfl) (Sub.cons (d := 83) (hp688.nt 31 83 rfl rfl rfl) (Sub.cons (d := 84) (hp688.nt 32 84 rfl rfl rfl) (Sub.cons (d := 85) (hp688.nt 33 85 rfl rfl rfl) (Sub.cons (d := 86) (hp688.nt 34 86 rfl rfl rfl) (Sub.cons (d := 87) (hp688.nt 35 87 rfl rfl rfl) (Sub.nil _)))))))))))))))))))))))))))))))) ?_))
             refine CW.cond_f rfl rfl (CW.skip (bn (tn (CW.region (sd rfl (yl_inc rfl rfl rfl (by omega) (sd rfl (yl_move rfl rfl (SeqR.done (tn ?_))))))))))
             have hB723 : B_i_GoodTable_1 p_0 k91 () = .cont () := by simp only [B_i_GoodTable_1, hb16, hb21, hb23, hb159, hb164, hb170, hb176, hL90, cond_true, cond_false, loopE_done, loopE_ret]
             exact ⟨p_0.Idxs.length - (k91 + 1), by omega, k91 + 1, rfl, hlt147, (by omega), rfl, rfl, rfl, rfl, (Box.ex q469 hE691), (RdS.ex good_Str (RdS.only good_Str (RdS.ex good_Str hf143 hE154) hO157 (by simp only [Iv]; omega)) hE691), (RdS.ex good_Idx (RdS.only good_Idx (RdS.ex good_Idx hf144 hE154) hO157 (by simp only [Iv]; omega)) hE691), (Ex.trans (Below.only (Ex.trans hf145 hE154) hO157 (by omega)) hE691), (loopM.cont hlt147 hB723).symm.trans hI136⟩
          ·refine CW.drawsI 36 (vgetI [DetI (.pointer (some ⟨b149, 0 + 0, none⟩)), DetI (.string (bs ((p_0.Idxs.getD k91 d_Idx).Name))), DetI (.bool ((i_areLetters ((p_0.Idxs.getD k91 d_Idx).Name) 1))), DetI (.bool (!(i_areLetters ((p_0.Idxs.getD k91 d_Idx).Name) 1))), DetI (.bool (!(i_areLetters ((p_0.Idxs.getD k91 d_Idx).Name) 1))), DetI (.pointer (some ⟨b149, 0 + 1, none⟩)), DetI (.int .i64 ((p_0.Idxs.getD k91 d_Idx).Col)), DetI (.pointer (some ⟨b7, 0 + 1, none⟩)), DetI (.slice A1 p_0.Cols.length c1), DetI (.int .i64 ((p_0.Cols.length : Int))), DetI (.int .i64 (IntKind.wrap .i64 ((p_0.Cols.length : Int) - 1))), DetI (.bool ((i_within ((p_0.Idxs.getD k91 d_Idx).Col) 1 (IntKind.wrap .i64 ((p_0.Cols.length : Int) - 1))))), DetI (.bool (!(i_within ((p_0.Idxs.getD k91 d_Idx).Col) 1 (IntKind.wrap .i64 ((p_0.Cols.length : Int) - 1))))), DetI (.bool (!(i_within ((p_0.Idxs.getD k91 d_Idx).Col) 1 (IntKind.wrap .i64 ((p_0.Cols.length : Int) - 1))))), DetI (.bool (!(i_within ((p_0.Idxs.getD k91 d_Idx).Col) 1 (IntKind.wrap .i64 ((p_0.Cols.length : Int) - 1))))), DetI (.pointer (some ⟨b149, 0 + 2, none⟩)), DetI (.int .i64 ((p_0.Idxs.getD k91 d_Idx).Stage)), DetI (.bool ((i_isStage ((p_0.Idxs.getD k91 d_Idx).Stage)))), DetI (.bool (!(i_isStage ((p_0.Idxs.getD k91 d_Idx).Stage)))), DetI (.bool (!(i_isStage ((p_0.Idxs.getD k91 d_Idx).Stage)))), DetI (.bool (!(i_isStage ((p_0.Idxs.getD k91 d_Idx).Stage)))), DetI (undef), DetI (undef), DetI (undef), DetI (undef), DetI (undef), DetI (undef), DetI (undef), DetI (undef), DetI (undef), DetI (undef), DetI (undef), DetI (undef), DetI (undef), DetI (undef), DetI (.bool (true))]) Try.follows rfl rfl rfl rfl rfl rfl (vgetI_stable ⟨StableI.det _, StableI.det _, StableI.det _, StableI.det _, StableI.det _, StableI.det _, StableI.det _, StableI.det _, StableI.det _, StableI.det _, StableI.det _, StableI.det _, StableI.det _, StableI.det _, StableI.det _, StableI.det _, StableI.det _, StableI.det _, StableI.det _, StableI.det _, StableI.det _, StableI.det _, StableI.det _, StableI.det _, StableI.det _, StableI.det _, StableI.det _, StableI.det _, StableI.det _, StableI.det _, StableI.det _, StableI.det _, StableI.det _, StableI.det _, StableI.det _, StableI.det _, trivial⟩) ⟨?_, ?_, ?_, ?_, ?_, ?_, ?_, ?_, ?_, ?_, ?_, ?_, ?_, ?_, ?_, ?_, ?_, ?_, ?_, ?_, ?_, ?_, ?_, ?_, ?_, ?_, ?_, ?_, ?_, ?_, ?_, ?_, ?_, ?_, ?_, ?_, trivial⟩ ?_
           ·exact fun _ _ h => os rfl ((yl_fieldAddr Try.fd171_0 rfl (h.old 6 _ rfl rfl) kI))
           ·exact fun _ _ h => os rfl ((yl_load1 Try.ty9 rfl (h.dt 0 52 rfl rfl rfl) (((Box.ex hB156 h.ex).cell 0).trans rfl) kI))
           ·intro L750 w751 hi752
            refine OpR.op' rfl (yl_call Try.en175 rfl (opvs_cons (hi752.dt 1 53 rfl rfl rfl) (opvs_cons rfl opvs_nil)) (Cal.mono (c_i_areLetters ((p_0.Idxs.getD k91 d_Idx).Name) 1 (okL.getD o3.2.2 ok_d_Idx _)) ?_))
            rintro v756 w755 ⟨rfl, hE757⟩
            exact ⟨rfl, hE757⟩
           ·exact fun _ _ h => os rfl ((yl_not rfl (h.dt 2 54 rfl rfl rfl) kI))
           ·exact fun _ _ h => os rfl ((yl_move rfl (h.dt 3 55 rfl rfl rfl) kI))
           ·exact fun _ _ h => OpR.want rfl rfl (h.dt 4 56 rfl rfl rfl) (not_t hb159) (Yl.sameI (yl_fieldAddr Try.fd171_1 rfl (h.old 6 _ rfl rfl) kI))
           ·exact fun _ _ h => OpR.want rfl rfl (h.dt 4 56 rfl rfl rfl) (not_t hb159) (Yl.sameI (yl_load1 Try.ty3 rfl (h.dt 5 57 rfl rfl rfl) (((Box.ex hB156 h.ex).cell 1).trans rfl) kI))
           ·exact fun _ _ h => OpR.want rfl rfl (h.dt 4 56 rfl rfl rfl) (not_t hb159) (Yl.sameI (yl_fieldAddr Try.fd36_1 rfl (h.old 1 _ rfl rfl) kI))
           ·intro L787 w788 hi789
            have hE790 := hi789.ex
            have hE790z := Ex.size hE790
            exact OpR.want rfl rfl (hi789.dt 4 56 rfl rfl rfl) (not_t hb159) (Yl.sameI (yl_load1 Try.ty22 rfl (hi789.dt 7 59 rfl rfl rfl) (((Box.ex (Box.only (Box.ex hf142 hE154) hO157 (by omega)) hE790).cell 1).trans rfl) kI))
           ·exact fun _ _ h => OpR.want rfl rfl (h.dt 4 56 rfl rfl rfl) (not_t hb159) (Yl.sameI (yl_len Try.un22 rfl (h.dt 8 60 rfl rfl rfl) kI))
           ·exact fun _ _ h => OpR.want rfl rfl (h.dt 4 56 rfl rfl rfl) (not_t hb159) (Yl.sameI (yl_sub rfl (h.dt 9 61 rfl rfl rfl) rfl kI))
           ·intro L806 w807 hi808
            refine OpR.want rfl rfl (hi808.dt 4 56 rfl rfl rfl) (not_t hb159) (yl_call Try.en77 rfl (opvs_cons (hi808.dt 6 58 rfl rfl rfl) (opvs_cons rfl (opvs_cons (hi808.dt 10 62 rfl rfl rfl) opvs_nil))) (Cal.mono (c_i_within ((p_0.Idxs.getD k91 d_Idx).Col) 1 (IntKind.wrap .i64 ((p_0.Cols.length : Int) - 1))) ?_))
            rintro v814 w813 ⟨rfl, hE815⟩
            exact ⟨rfl, hE815⟩
           ·exact fun _ _ h => OpR.want rfl rfl (h.dt 4 56 rfl rfl rfl) (not_t hb159) (Yl.sameI (yl_not rfl (h.dt 11 63 rfl rfl rfl) kI))
           ·exact fun _ _ h => os rfl ((yl_pick_f rfl (h.dt 4 56 rfl rfl rfl) (not_t hb159) (h.dt 12 64 rfl rfl rfl) kI))
           ·exact fun _ _ h => os rfl ((yl_move rfl (h.dt 13 65 rfl rfl rfl) kI))
           ·exact fun _ _ h => OpR.want rfl rfl (h.dt 14 66 rfl rfl rfl) (not_t hb164) (Yl.sameI (yl_fieldAddr Try.fd171_2 rfl (h.old 6 _ rfl rfl) kI))
           ·exact fun _ _ h => OpR.want rfl rfl (h.dt 14 66 rfl rfl rfl) (not_t hb164) (Yl.sameI (yl_load1 Try.ty3 rfl (h.dt 15 67 rfl rfl rfl) (((Box.ex hB156 h.ex).cell 2).trans rfl) kI))
           ·intro L846 w847 hi848
            refine OpR.want rfl rfl (hi848.dt 14 66 rfl rfl rfl) (not_t hb164) (yl_call Try.en93 rfl (opvs_cons (hi848.dt 16 68 rfl rfl rfl) opvs_nil) (Cal.mono (c_i_isStage ((p_0.Idxs.getD k91 d_Idx).Stage)) ?_))
            rintro v853 w852 ⟨rfl, hE854⟩
            exact ⟨rfl, hE854⟩
           ·exact fun _ _ h => OpR.want rfl rfl (h.dt 14 66 rfl rfl rfl) (not_t hb164) (Yl.sameI (yl_not rfl (h.dt 17 69 rfl rfl rfl) kI))
           ·exact fun _ _ h => os rfl ((yl_pick_f rfl (h.dt 14 66 rfl rfl rfl) (not_t hb164) (h.dt 18 70 rfl rfl rfl) kI))
           ·exact fun _ _ h => os rfl ((yl_move rfl (h.dt 19 71 rfl rfl rfl) kI))
           ·exact fun _ _ h => OpR.skip rfl rfl (h.dt 20 72 rfl rfl rfl) (not_f hb170) ⟨rfl, Ex.refl _⟩
           ·exact fun _ _ h => OpR.skip rfl rfl (h.dt 20 72 rfl rfl rfl) (not_f hb170) ⟨rfl, Ex.refl _⟩
           ·exact fun _ _ h => OpR.skip rfl rfl (h.dt 20 72 rfl rfl rfl) (not_f hb170) ⟨rfl, Ex.refl _⟩
           ·exact fun _ _ h => OpR.undef rfl rfl (h.dt 23 75 rfl rfl rfl) ⟨rfl, Ex.refl _⟩
           ·exact fun _ _ h => OpR.undef rfl rfl (h.dt 23 75 rfl rfl rfl) ⟨rfl, Ex.refl _⟩
           ·exact fun _ _ h => OpR.undef rfl rfl (h.dt 23 75 rfl rfl rfl) ⟨rfl, Ex.refl _⟩
           ·exact fun _ _ h => OpR.undef rfl rfl (h.dt 23 75 rfl rfl rfl) ⟨rfl, Ex.refl _⟩
           ·exact fun _ _ h => OpR.undef rfl rfl (h.dt 23 75 rfl rfl rfl) ⟨rfl, Ex.refl _⟩
           ·exact fun _ _ h => OpR.undef rfl rfl (h.dt 23 75 rfl rfl rfl) ⟨rfl, Ex.refl _⟩
           ·exact fun _ _ h => OpR.undef rfl rfl (h.dt 23 75 rfl rfl rfl) ⟨rfl, Ex.refl _⟩
           ·exact fun _ _ h => OpR.undef rfl rfl (h.dt 23 75 rfl rfl rfl) ⟨rfl, Ex.refl _⟩
           ·exact fun _ _ h => OpR.undef rfl rfl (h.dt 23 75 rfl rfl rfl) ⟨rfl, Ex.refl _⟩
           ·exact fun _ _ h => OpR.undef rfl rfl (h.dt 23 75 rfl rfl rfl) ⟨rfl, Ex.refl _⟩
           ·exact fun _ _ h => OpR.skip rfl rfl (h.dt 20 72 rfl rfl rfl) (not_f hb170) ⟨rfl, Ex.refl _⟩
           ·exact fun _ _ h => os rfl ((yl_pick_t rfl (h.dt 20 72 rfl rfl rfl) (not_f hb170) rfl kI))
           ·intro fl951 fh952 L948 w949 hp950
            have hE953 := hp950.ex
            have hE953z := Ex.size hE953
            refine SeqR.done (tn (CW.sub (Sub.cons (d := 1) (hp950.old 1 _ rfl rfl) (Sub.cons (d := 45) (hp950.old 45 _ rfl rfl) (Sub.cons (d := 46) (hp950.old 46 _ rfl rfl) (Sub.cons (d := 47) (hp950.old 47 _ rfl rfl) (Sub.cons (d := 57) (hp950.nt 5 57 rfl rfl rfl) (Sub.cons (d := 58) (hp950.nt 6 58 rfl rfl rfl) (Sub.cons (d := 59) (hp950.nt 7 59 rfl rfl rfl) (Sub.cons (d := 60) (hp950.nt 8 60 rfl rfl rfl) (Sub.cons (d := 61) (hp950.nt 9 61 rfl rfl rfl) (Sub.cons (d := 62) (hp950.nt 10 62 rfl rfl rfl) (Sub.cons (d := 63) (hp950.nt 11 63 rfl rfl rfl) (Sub.cons (d := 64) (hp950.nt 12 64 rfl rfl rfl) (Sub.cons (d := 67) (hp950.nt 15 67 rfl rfl rfl) (Sub.cons (d := 68) (hp950.nt 16 68 rfl rfl rfl) (Sub.cons (d := 69) (hp950.nt 17 69 rfl rfl rfl) (Sub.cons (d := 70) (hp950.nt 18 70 rfl rfl rfl) (Sub.cons (d := 73) (hp950.nt 21 73 rfl rfl rfl) (Sub.cons (d := 74) (hp950.nt 22 74 rfl rfl rfl) (Sub.cons (d := 75) (hp950.nt 23 75 rfl rfl rfl) (Sub.cons (d := 76) (hp950.nt 24 76 rfl rfl rfl) (Sub.cons (d := 77) (hp950.nt 25 77 rfl rfl rfl) (Sub.cons (d := 78) (hp950.nt 26 78 rfl rfl rfl) (Sub.cons (d := 79) (hp950.nt 27 79 rfl rfl rfl) (Sub.cons (d := 80) (hp950.nt 28 80 rfl rfl rfl) (Sub.cons (d := 81) (hp950.nt 29 81 rfl rfl rfl) (Sub.cons (d := 82) (hp950.nt 30 82 rfl rfl rfl) (Sub.cons (d := 83) (hp950.nt 31 83 rfl rfl rfl) (Sub.cons (d := 84) (hp950.nt 32 84 rfl rfl rfl) (Sub.cons (d := 85) (hp950.nt 33 85 rfl rfl rfl) (Sub.cons (d := 86) (hp950.nt 34 86 rfl rfl rfl) (Sub.cons (d := 87) (hp950.nt 35 87 rfl rfl rfl) (Sub.nil _)))))))))))))))))))))))))))))))) ?_))
            refine CW.cond_t rfl rfl (CW.seq (CW.region (sd rfl (yl_assign rfl rfl (SeqR.done (tn (CW.ret (br (tr ?_)))))))))
            refine tr ?_
            have hB986 : B_i_GoodTable_1 p_0 k91 () = .ret false := by simp only [B_i_GoodTable_1, hb16, hb21, hb23, hb159, hb164, hb170, hL90, cond_true, cond_false, loopE_done, loopE_ret]
            have hL985 : loopM (B_i_GoodTable_1 p_0) (p_0.Idxs.length - 0) 0 () = .ret false := hI136.symm.trans (loopM.ret hlt147 hB986)
            refine br (tr (rr rfl (.cons rfl .nil) ?_))
            have hM987 : (i_GoodTable p_0) = (false) := by simp only [i_GoodTable, hb16, hb21, hb23, hb159, hb164, hb170, hL90, hL985, cond_true, cond_false, loopE_done, loopE_ret]
            rw [hM987]
            exact ⟨rfl, (Ex.trans (Below.only (Ex.trans hf145 hE154) hO157 (by omega)) hE953)⟩
         ·refine CW.drawsI 36 (vgetI [DetI (.pointer (some ⟨b149, 0 + 0, none⟩)), DetI (.string (bs ((p_0.Idxs.getD k91 d_Idx).Name))), DetI (.bool ((i_areLetters ((p_0.Idxs.getD k91 d_Idx).Name) 1))), DetI (.bool (!(i_areLetters ((p_0.Idxs.getD k91 d_Idx).Name) 1))), DetI (.bool (!(i_areLetters ((p_0.Idxs.getD k91 d_Idx).Name) 1))), DetI (.pointer (some ⟨b149, 0 + 1, none⟩)), DetI (.int .i64 ((p_0.Idxs.getD k91 d_Idx).Col)), DetI (.pointer (some ⟨b7, 0 + 1, none⟩)), DetI (.slice A1 p_0.Cols.length c1), DetI (.int .i64 ((p_0.Cols.length : Int))), DetI (.int .i64 (IntKind.wrap .i64 ((p_0.Cols.length : Int) - 1))), DetI (.bool ((i_within ((p_0.Idxs.getD k91 d_Idx).Col) 1 (IntKind.wrap .i64 ((p_0.Cols.length : Int) - 1))))), DetI (.bool (!(i_within ((p_0.Idxs.getD k91 d_Idx).Col) 1 (IntKind.wrap .i64 ((p_0.Cols.length : Int) - 1))))), DetI (.bool (!(i_within ((p_0.Idxs.getD k91 d_Idx).Col) 1 (IntKind.wrap .i64 ((p_0.Cols.length : Int) - 1))))), DetI (.bool (!(i_within ((p_0.Idxs.getD k91 d_Idx).Col) 1 (IntKind.wrap .i64 ((p_0.Cols.length : Int) - 1))))), DetI (undef), DetI (undef), DetI (undef), DetI (undef), DetI (.bool (true)), DetI (.bool (true)), DetI (undef), DetI (undef), DetI (undef), DetI (undef), DetI (undef), DetI (undef), DetI (undef), DetI (undef), DetI (undef), DetI (undef), DetI (undef), DetI (undef), DetI (undef), DetI (undef), DetI (.bool (true))]) Try.follows rfl rfl rfl rfl rfl rfl (vgetI_stable ⟨StableI.det _, StableI.det _, StableI.det _, StableI.det _, StableI.det _, StableI.det _, StableI.det _, StableI.det _, StableI.det _, StableI.det _, StableI.det _, StableI.det _, StableI.det _, StableI.det _, StableI.det _, StableI.det _, StableI.det _, StableI.det _, StableI.det _, StableI.det _, StableI.det _, StableI.det _, StableI.det _, StableI.det _, StableI.det _, StableI.det _, StableI.det _, StableI.det _, StableI.det _, StableI.det _, StableI.det _, StableI.det _, StableI.det _, StableI.det _, StableI.det _, StableI.det _, trivial⟩) ⟨?_, ?_, ?_, ?_, ?_, ?_, ?_, ?_, ?_, ?_, ?_, ?_, ?_, ?_, ?_, ?_, ?_, ?_, ?_, ?_, ?_, ?_, ?_, ?_, ?_, ?_, ?_, ?_, ?_, ?_, ?_, ?_, ?_, ?_, ?_, ?_, trivial⟩ ?_
          ·exact fun _ _ h => os rfl ((yl_fieldAddr Try.fd171_0 rfl (h.old 6 _ rfl rfl) kI))
          ·exact fun _ _ h => os rfl ((yl_load1 Try.ty9 rfl (h.dt 0 52 rfl rfl rfl) (((Box.ex hB156 h.ex).cell 0).trans rfl) kI))
          ·intro L1006 w1007 hi1008
           refine OpR.op' rfl (yl_call Try.en175 rfl (opvs_cons (hi1008.dt 1 53 rfl rfl rfl) (opvs_cons rfl opvs_nil)) (Cal.mono (c_i_areLetters ((p_0.Idxs.getD k91 d_Idx).Name) 1 (okL.getD o3.2.2 ok_d_Idx _)) ?_))
           rintro v1012 w1011 ⟨rfl, hE1013⟩
           exact ⟨rfl, hE1013⟩
          ·exact fun _ _ h => os rfl ((yl_not rfl (h.dt 2 54 rfl rfl rfl) kI))
          ·exact fun _ _ h => os rfl ((yl_move rfl (h.dt 3 55 rfl rfl rfl) kI))
          ·exact fun _ _ h => OpR.want rfl rfl (h.dt 4 56 rfl rfl rfl) (not_t hb159) (Yl.sameI (yl_fieldAddr Try.fd171_1 rfl (h.old 6 _ rfl rfl) kI))
          ·exact fun _ _ h => OpR.want rfl rfl (h.dt 4 56 rfl rfl rfl) (not_t hb159) (Yl.sameI (yl_load1 Try.ty3 rfl (h.dt 5 57 rfl rfl rfl) (((Box.ex hB156 h.ex).cell 1).trans rfl) kI))
          ·exact fun _ _ h => OpR.want rfl rfl (h.dt 4 56 rfl rfl rfl) (not_t hb159) (Yl.sameI (yl_fieldAddr Try.fd36_1 rfl (h.old 1 _ rfl rfl) kI))
          ·intro L1043 w1044 hi1045
           have hE1046 := hi1045.ex
           have hE1046z := Ex.size hE1046
           exact OpR.want rfl rfl (hi1045.dt 4 56 rfl rfl rfl) (not_t hb159) (Yl.sameI (yl_load1 Try.ty22 rfl (hi1045.dt 7 59 rfl rfl rfl) (((Box.ex (Box.only (Box.ex hf142 hE154) hO157 (by omega)) hE1046).cell 1).trans rfl) kI))
          ·exact fun _ _ h => OpR.want rfl rfl (h.dt 4 56 rfl rfl rfl) (not_t hb159) (Yl.sameI (yl_len Try.un22 rfl (h.dt 8 60 rfl rfl rfl) kI))
          ·exact fun _ _ h => OpR.want rfl rfl (h.dt 4 56 rfl rfl rfl) (not_t hb159) (Yl.sameI (yl_sub rfl (h.dt 9 61 rfl rfl rfl) rfl kI))
          ·intro L1062 w1063 hi1064
           refine OpR.want rfl rfl (hi1064.dt 4 56 rfl rfl rfl) (not_t hb159) (yl_call Try.en77 rfl (opvs_cons (hi1064.dt 6 58 rfl rfl rfl) (opvs_cons rfl (opvs_cons (hi1064.dt 10 62 rfl rfl rfl) opvs_nil))) (Cal.mono (c_i_within ((p_0.Idxs.getD k91 d_Idx).Col) 1 (IntKind.wrap .i64 ((p_0.Cols.length : Int) - 1))) ?_))
           rintro v1070 w1069 ⟨rfl, hE1071⟩
           exact ⟨rfl, hE1071⟩
          ·exact fun _ _ h => OpR.want rfl rfl (h.dt 4 56 rfl rfl rfl) (not_t hb159) (Yl.sameI (yl_not rfl (h.dt 11 63 rfl rfl rfl) kI))
          ·exact fun _ _ h => os rfl ((yl_pick_f rfl (h.dt 4 56 rfl rfl rfl) (not_t hb159) (h.dt 12 64 rfl rfl rfl) kI))
          ·exact fun _ _ h => os rfl ((yl_move rfl (h.dt 13 65 rfl rfl rfl) kI))
          ·exact fun _ _ h => OpR.skip rfl rfl (h.dt 14 66 rfl rfl rfl) (not_f hb164) ⟨rfl, Ex.refl _⟩
          ·exact fun _ _ h => OpR.skip rfl rfl (h.dt 14 66 rfl rfl rfl) (not_f hb164) ⟨rfl, Ex.refl _⟩
          ·exact fun _ _ h => OpR.skip rfl rfl (h.dt 14 66 rfl rfl rfl) (not_f hb164) ⟨rfl, Ex.refl _⟩
          ·exact fun _ _ h => OpR.skip rfl rfl (h.dt 14 66 rfl rfl rfl) (not_f hb164) ⟨rfl, Ex.refl _⟩
          ·exact fun _ _ h => os rfl ((yl_pick_t rfl (h.dt 14 66 rfl rfl rfl) (not_f hb164) rfl kI))
          ·exact fun _ _ h => os rfl ((yl_move rfl (h.dt 19 71 rfl rfl rfl) kI))
          ·exact fun _ _ h => OpR.skip rfl rfl (h.dt 20 72 rfl rfl rfl) rfl ⟨rfl, Ex.refl _⟩
          ·exact fun _ _ h => OpR.skip rfl rfl (h.dt 20 72 rfl rfl rfl) rfl ⟨rfl, Ex.refl _⟩
          ·exact fun _ _ h => OpR.skip rfl rfl (h.dt 20 72 rfl rfl rfl) rfl ⟨rfl, Ex.refl _⟩
          ·exact fun _ _ h => OpR.undef rfl rfl (h.dt 23 75 rfl rfl rfl) ⟨rfl, Ex.refl _⟩
          ·exact fun _ _ h => OpR.undef rfl rfl (h.dt 23 75 rfl rfl rfl) ⟨rfl, Ex.refl _⟩
          ·exact fun _ _ h => OpR.undef rfl rfl (h.dt 23 75 rfl rfl rfl) ⟨rfl, Ex.refl _⟩
          ·exact fun _ _ h => OpR.undef rfl rfl (h.dt 23 75 rfl rfl rfl) ⟨rfl, Ex.refl _⟩
          ·exact fun _ _ h => OpR.undef rfl rfl (h.dt 23 75 rfl rfl rfl) ⟨rfl, Ex.refl _⟩
          ·exact fun _ _ h => OpR.undef rfl rfl (h.dt 23 75 rfl rfl rfl) ⟨rfl, Ex.refl _⟩
          ·exact fun _ _ h => OpR.undef rfl rfl (h.dt 23 75 rfl rfl rfl) ⟨rfl, Ex.refl _⟩
          ·exact fun _ _ h => OpR.undef rfl rfl (h.dt 23 75 rfl rfl rfl) ⟨rfl, Ex.refl _⟩
          ·exact fun _ _ h => OpR.undef rfl rfl (h.dt 23 75 rfl rfl rfl) ⟨rfl, Ex.refl _⟩
          ·exact fun _ _ h => OpR.undef rfl rfl (h.dt 23 75 rfl rfl rfl) ⟨rfl, Ex.refl _⟩
          ·exact fun _ _ h => OpR.skip rfl rfl (h.dt 20 72 rfl rfl rfl) rfl ⟨rfl, Ex.refl _⟩
          ·exact fun _ _ h => os rfl ((yl_pick_t rfl (h.dt 20 72 rfl rfl rfl) rfl rfl kI))
          ·intro fl1199 fh1200 L1196 w1197 hp1198
           have hE1201 := hp1198.ex
           have hE1201z := Ex.size hE1201
           refine SeqR.done (tn (CW.sub (Sub.cons (d := 1) (hp1198.old 1 _ rfl rfl) (Sub.cons (d := 45) (hp1198.old 45 _ rfl rfl) (Sub.cons (d := 46) (hp1198.old 46 _ rfl rfl) (Sub.cons (d := 47) (hp1198.old 47 _ rfl rfl) (Sub.cons (d := 57) (hp1198.nt 5 57 rfl rfl rfl) (Sub.cons (d := 58) (hp1198.nt 6 58 rfl rfl rfl) (Sub.cons (d := 59) (hp1198.nt 7 59 rfl rfl rfl) (Sub.cons (d := 60) (hp1198.nt 8 60 rfl rfl rfl) (Sub.cons (d := 61) (hp1198.nt 9 61 rfl rfl rfl) (Sub.cons (d := 62) (hp1198.nt 10 62 rfl rfl rfl) (Sub.cons (d := 63) (hp1198.nt 11 63 rfl rfl rfl) (Sub.cons (d := 64) (hp1198.nt 12 64 rfl rfl rfl) (Sub.cons (d := 67) (hp1198.nt 15 67 rfl rfl rfl) (Sub.cons (d := 68) (hp1198.nt 16 68 rfl rfl rfl) (Sub.cons (d := 69) (hp1198.nt 17 69 rfl rfl rfl) (Sub.cons (d := 70) (hp1198.nt 18 70 rfl rfl rfl) (Sub.cons (d := 73) (hp1198.nt 21 73 rfl rfl rfl) (Sub.cons (d := 74) (hp1198.nt 22 74 rfl rfl rfl) (Sub.cons (d := 75) (hp1198.nt 23 75 rfl rfl rfl) (Sub.cons (d := 76) (hp1198.nt 24 76 rfl rfl rfl) (Sub.cons (d := 77) (hp1198.nt 25 77 rfl rfl rfl) (Sub.cons (d := 78) (hp1198.nt 26 78 rfl rfl rfl) (Sub.cons (d := 79) (hp1198.nt 27 79 rfl rfl rfl) (Sub.cons (d := 80) (hp1198.nt 28 80 rfl rfl rfl) (Sub.cons (d := 81) (hp1198.nt 29 81 rfl rfl rfl) (Sub.cons (d := 82) (hp1198.nt 30 82 rfl rfl rfl) (Sub.cons (d := 83) (hp1198.nt 31 83 rfl rfl rfl) (Sub.cons (d := 84) (hp1198.nt 32 84 rfl rfl rfl) (Sub.cons (d := 85) (hp1198.nt 33 85 rfl rfl rfl) (Sub.cons (d := 86) (hp1198.nt 34 86 rfl rfl rfl) (Sub.cons (d := 87) (hp1198.nt 35 87 rfl rfl rfl) (Sub.nil _)))))))))))))))))))))))))))))))) ?_))
           refine CW.cond_t rfl rfl (CW.seq (CW.region (sd rfl (yl_assign rfl rfl (SeqR.done (tn (CW.ret (br (tr ?_)))))))))
           refine tr ?_
           have hB1234 : B_i_GoodTable_1 p_0 k91 () = .ret false := by simp only [B_i_GoodTable_1, hb16, hb21, hb23, hb159, hb164, hL90, cond_true, cond_false, loopE_done, loopE_ret]
           have hL1233 : loopM (B_i_GoodTable_1 p_0) (p_0.Idxs.length - 0) 0 () = .ret false := hI136.symm.trans (loopM.ret hlt147 hB1234)
           refine br (tr (rr rfl (.cons rfl .nil) ?_))
           have hM1235 : (i_GoodTable p_0) = (false) := by simp only [i_GoodTable, hb16, hb21, hb23, hb159, hb164, hL90, hL1233, cond_true, cond_false, loopE_done, loopE_ret]
           rw [hM1235]
           exact ⟨rfl, (Ex.trans (Below.only (Ex.trans hf145 hE154) hO157 (by omega)) hE1201)⟩
        ·refine CW.drawsI 36 (vgetI [DetI (.pointer (some ⟨b149, 0 + 0, none⟩)), DetI (.string (bs ((p_0.Idxs.getD k91 d_Idx).Name))), DetI (.bool ((i_areLetters ((p_0.Idxs.getD k91 d_Idx).Name) 1))), DetI (.bool (!(i_areLetters ((p_0.Idxs.getD k91 d_Idx).Name) 1))), DetI (.bool (!(i_areLetters ((p_0.Idxs.getD k91 d_Idx).Name) 1))), DetI (undef), DetI (undef), DetI (undef), DetI (undef), DetI (undef), DetI (undef), DetI (undef), DetI (undef), DetI (.bool (true)), DetI (.bool (true)), DetI (undef), DetI (undef), DetI (undef), DetI (undef), DetI (.bool (true)), DetI (.bool (true)), DetI (undef), DetI (undef), DetI (undef), DetI (undef), DetI (undef), DetI (undef), DetI (undef), DetI (undef), DetI (undef), DetI (undef), DetI (undef), DetI (undef), DetI (undef), DetI (undef), DetI (.bool (true))]) Try.follows rfl rfl rfl rfl rfl rfl (vgetI_stable ⟨StableI.det _, StableI.det _, StableI.det _, StableI.det _, StableI.det _, StableI.det _, StableI.det _, StableI.det _, StableI.det _, StableI.det _, StableI.det _, StableI.det _, StableI.det _, StableI.det _, StableI.det _, StableI.det _, StableI.det _, StableI.det _, StableI.det _, StableI.det _, StableI.det _, StableI.det _, StableI.det _, StableI.det _, StableI.det _, StableI.det _, StableI.det _, StableI.det _, StableI.det _, StableI.det _, StableI.det _, StableI.det _, StableI.det _, StableI.det _, StableI.det _, StableI.det _, trivial⟩) ⟨?_, ?_, ?_, ?_, ?_, ?_, ?_, ?_, ?_, ?_, ?_, ?_, ?_, ?_, ?_, ?_, ?_, ?_, ?_, ?_, ?_, ?_, ?_, ?_, ?_, ?_, ?_, ?_, ?_, ?_, ?_, ?_, ?_, ?_, ?_, ?_, trivial⟩ ?_
         ·exact fun _ _ h => os rfl ((yl_fieldAddr Try.fd171_0 rfl (h.old 6 _ rfl rfl) kI))
         ·exact fun _ _ h => os rfl ((yl_load1 Try.ty9 rfl (h.dt 0 52 rfl rfl rfl) (((Box.ex hB156 h.ex).cell 0).trans rfl) kI))
         ·intro L1251 w1252 hi1253
          refine OpR.op' rfl (yl_call Try.en175 rfl (opvs_cons (hi1253.dt 1 53 rfl rfl rfl) (opvs_cons rfl opvs_nil)) (Cal.mono (c_i_areLetters ((p_0.Idxs.getD k91 d_Idx).Name) 1 (okL.getD o3.2.2 ok_d_Idx _)) ?_))
          rintro v1257 w1256 ⟨rfl, hE1258⟩
          exact ⟨rfl, hE1258⟩
         ·exact fun _ _ h => os rfl ((yl_not rfl (h.dt 2 54 rfl rfl rfl) kI))
         ·exact fun _ _ h => os rfl ((yl_move rfl (h.dt 3 55 rfl rfl rfl) kI))
         ·exact fun _ _ h => OpR.skip rfl rfl (h.dt 4 56 rfl rfl rfl) (not_f hb159) ⟨rfl, Ex.refl _⟩
         ·exact fun _ _ h => OpR.skip rfl rfl (h.dt 4 56 rfl rfl rfl) (not_f hb159) ⟨rfl, Ex.refl _⟩
         ·exact fun _ _ h => OpR.skip rfl rfl (h.dt 4 56 rfl rfl rfl) (not_f hb159) ⟨rfl, Ex.refl _⟩
         ·exact fun _ _ h => OpR.skip rfl rfl (h.dt 4 56 rfl rfl rfl) (not_f hb159) ⟨rfl, Ex.refl _⟩
         ·exact fun _ _ h => OpR.skip rfl rfl (h.dt 4 56 rfl rfl rfl) (not_f hb159) ⟨rfl, Ex.refl _⟩
         ·exact fun _ _ h => OpR.skip rfl rfl (h.dt 4 56 rfl rfl rfl) (not_f hb159) ⟨rfl, Ex.refl _⟩
         ·exact fun _ _ h => OpR.skip rfl rfl (h.dt 4 56 rfl rfl rfl) (not_f hb159) ⟨rfl, Ex.refl _⟩
         ·exact fun _ _ h => OpR.skip rfl rfl (h.dt 4 56 rfl rfl rfl) (not_f hb159) ⟨rfl, Ex.refl _⟩
         ·exact fun _ _ h => os rfl ((yl_pick_t rfl (h.dt 4 56 rfl rfl rfl) (not_f hb159) rfl kI))
         ·exact fun _ _ h => os rfl ((yl_move rfl (h.dt 13 65 rfl rfl rfl) kI))
         ·exact fun _ _ h => OpR.skip rfl rfl (h.dt 14 66 rfl rfl rfl) rfl ⟨rfl, Ex.refl _⟩
         ·exact fun _ _ h => OpR.skip rfl rfl (h.dt 14 66 rfl rfl rfl) rfl ⟨rfl, Ex.refl _⟩
         ·exact fun _ _ h => OpR.skip rfl rfl (h.dt 14 66 rfl rfl rfl) rfl ⟨rfl, Ex.refl _⟩
         ·exact fun _ _ h => OpR.skip rfl rfl (h.dt 14 66 rfl rfl rfl) rfl ⟨rfl, Ex.refl _⟩
         ·exact fun _ _ h => os rfl ((yl_pick_t rfl (h.dt 14 66 rfl rfl rfl) rfl rfl kI))
         ·exact fun _ _ h => os rfl ((yl_move rfl (h.dt 19 71 rfl rfl rfl) kI))
         ·exact fun _ _ h => OpR.skip rfl rfl (h.dt 20 72 rfl rfl rfl) rfl ⟨rfl, Ex.refl _⟩
         ·exact fun _ _ h => OpR.skip rfl rfl (h.dt 20 72 rfl rfl rfl) rfl ⟨rfl, Ex.refl _⟩
         ·exact fun _ _ h => OpR.skip rfl rfl (h.dt 20 72 rfl rfl rfl) rfl ⟨rfl, Ex.refl _⟩
         ·exact fun _ _ h => OpR.undef rfl rfl (h.dt 23 75 rfl rfl rfl) ⟨rfl, Ex.refl _⟩
         ·exact fun _ _ h => OpR.undef rfl rfl (h.dt 23 75 rfl rfl rfl) ⟨rfl, Ex.refl _⟩
         ·exact fun _ _ h => OpR.undef rfl rfl (h.dt 23 75 rfl rfl rfl) ⟨rfl, Ex.refl _⟩
         ·exact fun _ _ h => OpR.undef rfl rfl (h.dt 23 75 rfl rfl rfl) ⟨rfl, Ex.refl _⟩
         ·exact fun _ _ h => OpR.undef rfl rfl (h.dt 23 75 rfl rfl rfl) ⟨rfl, Ex.refl _⟩
         ·exact fun _ _ h => OpR.undef rfl rfl (h.dt 23 75 rfl rfl rfl) ⟨rfl, Ex.refl _⟩
         ·exact fun _ _ h => OpR.undef rfl rfl (h.dt 23 75 rfl rfl rfl) ⟨rfl, Ex.refl _⟩
         ·exact fun _ _ h => OpR.undef rfl rfl (h.dt 23 75 rfl rfl rfl) ⟨rfl, Ex.refl _⟩
         ·exact fun _ _ h => OpR.undef rfl rfl (h.dt 23 75 rfl rfl rfl) ⟨rfl, Ex.refl _⟩
         ·exact fun _ _ h => OpR.undef rfl rfl (h.dt 23 75 rfl rfl rfl) ⟨rfl, Ex.refl _⟩
         ·exact fun _ _ h => OpR.skip rfl rfl (h.dt 20 72 rfl rfl rfl) rfl ⟨rfl, Ex.refl _⟩
         ·exact fun _ _ h => os rfl ((yl_pick_t rfl (h.dt 20 72 rfl rfl rfl) rfl rfl kI))
         ·intro fl1430 fh1431 L1427 w1428 hp1429
          have hE1432 := hp1429.ex
          have hE1432z := Ex.size hE1432
          refine SeqR.done (tn (CW.sub (Sub.cons (d := 1) (hp1429.old 1 _ rfl rfl) (Sub.cons (d := 45) (hp1429.old 45 _ rfl rfl) (Sub.cons (d := 46) (hp1429.old 46 _ rfl rfl) (Sub.cons (d := 47) (hp1429.old 47 _ rfl rfl) (Sub.cons (d := 57) (hp1429.nt 5 57 rfl rfl rfl) (Sub.cons (d := 58) (hp1429.nt 6 58 rfl rfl rfl) (Sub.cons (d := 59) (hp1429.nt 7 59 rfl rfl rfl) (Sub.cons (d := 60) (hp1429.nt 8 60 rfl rfl rfl) (Sub.cons (d := 61) (hp1429.nt 9 61 rfl rfl rfl) (Sub.cons (d := 62) (hp1429.nt 10 62 rfl rfl rfl) (Sub.cons (d := 63) (hp1429.nt 11 63 rfl rfl rfl) (Sub.cons (d := 64) (hp1429.nt 12 64 rfl rfl rfl) (Sub.cons (d := 67) (hp1429.nt 15 67 rfl rfl rfl) (Sub.cons (d := 68) (hp1429.nt 16 68 rfl rfl rfl) (Sub.cons (d := 69) (hp1429.nt 17 69 rfl rfl rfl) (Sub.cons (d := 70) (hp1429.nt 18 70 rfl rfl rfl) (Sub.cons (d := 73) (hp1429.nt 21 73 rfl rfl rfl) (Sub.cons (d := 74) (hp1429.nt 22 74 rfl rfl rfl) (Sub.cons (d := 75) (hp1429.nt 23 75 rfl rfl rfl) (Sub.cons (d := 76) (hp1429.nt 24 76 rfl rfl rfl) (Sub.cons (d := 77) (hp1429.nt 25 77 rfl rfl rfl) (Sub.cons (d := 78) (hp1429.nt 26 78 rfl rfl rfl) (Sub.cons (d := 79) (hp1429.nt 27 79 rfl rfl rfl) (Sub.cons (d := 80) (hp1429.nt 28 80 rfl rfl rfl) (Sub.cons (d := 81) (hp1429.nt 29 81 rfl rfl rfl) (Sub.cons (d := 82) (hp1429.nt 30 82 rfl rfl rfl) (Sub.cons (d := 83) (hp1429.nt 31 83 rfl rfl rfl) (Sub.cons (d := 84) (hp1429.nt 32 84 rfl rfl rfl) (Sub.cons (d := 85) (hp1429.nt 33 85 rfl rfl rfl) (Sub.cons (d := 86) (hp1429.nt 34 86 rfl rfl rfl) (Sub.cons (d := 87) (hp1429.nt 35 87 rfl rfl rfl) (Sub.nil _)))))))))))))))))))))))))))))))) ?_))
          refine CW.cond_t rfl rfl (CW.seq (CW.region (sd rfl (yl_assign rfl rfl (SeqR.done (tn (CW.ret (br (tr ?_)))))))))
          refine tr ?_
          have hB1465 : B_i_GoodTable_1 p_0 k91 () = .ret false := by simp only [B_i_GoodTable_1, hb16, hb21, hb23, hb159, hL90, cond_true, cond_false, loopE_done, loopE_ret]
          have hL1464 : loopM (B_i_GoodTable_1 p_0) (p_0.Idxs.length - 0) 0 () = .ret false := hI136.symm.trans (loopM.ret hlt147 hB1465)
          refine br (tr (rr rfl (.cons rfl .nil) ?_))
          have hM1466 : (i_GoodTable p_0) = (false) := by simp only [i_GoodTable, hb16, hb21, hb23, hb159, hL90, hL1464, cond_true, cond_false, loopE_done, loopE_ret]
          rw [hM1466]
          exact ⟨rfl, (Ex.trans (Below.only (Ex.trans hf145 hE154) hO157 (by omega)) hE1432)⟩
       ·refine CW.seq (CW.region (sd rfl (yl_lss rfl rfl rfl (SeqR.done (tn (CW.seq (CW.cond_f rfl (lt_f hlt147) (CW.exit (tx ?_)))))))))
        refine tx ?_
        have hL1470 : loopM (B_i_GoodTable_1 p_0) (p_0.Idxs.length - 0) 0 () = .done () := hI136.symm.trans (loopM.stop hlt147)
        refine bx (tn (CW.seq (CW.region (sd rfl (yl_assign rfl rfl (SeqR.done (tn (CW.ret (rr rfl (.cons rfl .nil) ?_)))))))))
        have hM1471 : (i_GoodTable p_0) = (true) := by simp only [i_GoodTable, hb16, hb21, hb23, hL90, hL1470, cond_true, cond_false, loopE_done, loopE_ret]
        rw [hM1471]
        exact ⟨rfl, hf145⟩
  ·refine sz rfl rfl (not_f hb21) (sz rfl rfl (not_f hb21) (sz rfl rfl (not_f hb21) (sz rfl rfl (not_f hb21) (sd rfl (yl_pick_t rfl rfl (not_f hb21) rfl (SeqR.done (tn (CW.cond_t rfl rfl (CW.seq ?_)))))))))
   refine CW.region (sd rfl (yl_assign rfl rfl (SeqR.done (tn (CW.ret (tr (rr rfl (.cons rfl .nil) ?_)))))))
   have hM1472 : (i_GoodTable p_0) = (false) := by simp only [i_GoodTable, hb16, hb21, cond_true, cond_false, loopE_done, loopE_ret]
   rw [hM1472]
   exact ⟨rfl, (Ex.trans (Ex.trans (Ex.trans (Ex.refl w) hE12) hE15) hE20)⟩
 ·refine sz rfl rfl (not_f hb16) (sz rfl rfl (not_f hb16) (sz rfl rfl (not_f hb16) (sz rfl rfl (not_f hb16) (sz rfl rfl (not_f hb16) (sd rfl (yl_pick_t rfl rfl (not_f hb16) rfl (sd rfl (yl_move rfl rfl (sz rfl rfl rfl (sz rfl rfl rfl ?_))))))))))
  refine sz rfl rfl rfl (sz rfl rfl rfl (sd rfl (yl_pick_t rfl rfl rfl rfl (SeqR.done (tn (CW.cond_t rfl rfl (CW.seq (CW.region (sd rfl (yl_assign rfl rfl ?_))))))))))
  refine SeqR.done (tn (CW.ret (tr (rr rfl (.cons rfl .nil) ?_))))
  have hM1476 : (i_GoodTable p_0) = (false) := by simp only [i_GoodTable, hb16, cond_true, cond_false, loopE_done, loopE_ret]
  rw [hM1476]
  exact ⟨rfl, (Ex.trans (Ex.trans (Ex.refl w) hE12) hE15)⟩
set_option maxRecDepth 100000 in
set_option maxHeartbeats 2000000 in
theorem c_g_slices_IndexFunc_Idx {A1 : Option Addr} {c1 : Nat} {g3 : Nat} {cp4 : List Value} {w : World} (p_s : List DIdx) (p_f : DIdx → Bool) (h1 : RdS w (Iv 0 w.heap.size) (RF e_Idx) 3 A1 p_s.length c1 p_s) (hen5 : Enters Try.prog g3) (hfn6 : ∀ (w1 : World) (y0 : DIdx), Ex w w1 → y0 ∈ p_s → ok_Idx y0 → Cal Try.prog g3 (([.agg #[.string (bs (y0.Name)), .int .i64 (y0.Col), .int .i64 (y0.Stage)]] : List Value) ++ cp4).toArray w1 fun v w2 => v = .bool (p_f y0) ∧ Ex w1 w2) (o2 : (okL ok_Idx) p_s) : Cal Try.prog 189 #[.slice A1 p_s.length c1, .func (.func g3) #[] cp4.toArray] w fun v w' => v = .int .i64 ((g_slices_IndexFunc_Idx p_s p_f)) ∧ Ex w w' := by
 have hol7 := o2.1
 refine Cal.of (vs := [.slice A1 p_s.length c1, .func (.func g3) #[] cp4.toArray]) Try.func189 rfl Try.ntmps189 rfl (CW.seq (CW.region (sd rfl (yl_assign rfl rfl (SeqR.done (tn (CW.seq (CW.seq (CW.region ?_)))))))))
 refine sd rfl (yl_move rfl rfl (sd rfl (yl_len Try.un34 rfl rfl (sd rfl (yl_move rfl rfl (SeqR.done (tn (CW.block (CW.loop (fun m9 L10 w11 => ∃ (k8 : Nat), m9 = p_s.length - k8 ∧ k8 ≤ p_s.length ∧ w.heap.size ≤ w11.heap.size ∧ lkp L10 0 = some (.slice A1 p_s.length c1) ∧ lkp L10 1 = some (.func (.func g3) #[] cp4.toArray) ∧ lkp L10 7 = some (.int .i64 ((p_s.length : Int))) ∧ lkp L10 8 = some (.int .i64 ((k8 : Int))) ∧ RdS w11 (Iv 0 w.heap.size) (RF e_Idx) 3 A1 p_s.length c1 p_s ∧ Ex w w11 ∧ loopM (B_g_slices_IndexFunc_Idx_0 p_s p_f) (p_s.length - k8) k8 () = loopM (B_g_slices_IndexFunc_Idx_0 p_s p_f) (p_s.length - 0) 0 ()) (p_s.length - 0) ?_ ?_)))))))))
 ·exact ⟨0, rfl, (by omega), Nat.le_refl _, rfl, rfl, rfl, rfl, h1, (Ex.refl w), rfl⟩
 ·rintro m12 L13 w14 ⟨k8, rfl, hk15, hsz17, hl18, hl19, hl20, hl21, hf22, hf23, hI16⟩
  refine CW.sub (Sub.cons hl18 (Sub.cons hl19 (Sub.cons hl20 (Sub.cons hl21 (Sub.nil _))))) ?_
  have hf23z := Ex.size hf23
  have hbg24 := RdS.big hf22
  rcases Nat.lt_or_ge k8 p_s.length with hlt25 | hlt25
  ·refine CW.seq (CW.region (sd rfl (yl_lss rfl rfl rfl (SeqR.done (tn (CW.seq (CW.cond_t rfl (lt_t hlt25) (CW.skip (tn ?_)))))))))
   refine CW.seq (CW.block (CW.seq (CW.region (sd rfl (yl_move rfl rfl (sd rfl (yl_assign rfl rfl (SeqR.done (tn (CW.seq ?_))))))))))
   refine CW.region (sd rfl (yl_move rfl rfl (sd rfl (yl_move rfl rfl (sd rfl (yl_move rfl rfl ?_))))))
   obtain ⟨eb26, eo26, ec26, eA26, eS26, ebl26, el26, eR26, eC26⟩ := RdS.atD hf22 d_Idx (i := k8) (by first | omega | assumption)
   obtain rfl := eR26
   have eC26 : Cells w14 eb26 (eo26 + k8 * 3) [.string (bs ((p_s.getD k8 d_Idx).Name)), .int .i64 ((p_s.getD k8 d_Idx).Col), .int .i64 ((p_s.getD k8 d_Idx).Stage)] := eC26
   refine sd rfl (yl_indexAddrN Try.un34 Try.ty171 rfl rfl rfl eA26 (by first | omega | assumption | (simp only [IntKind.wrap_i64] at *; omega)) (sd rfl (yl_loadN (cs := [.string (bs ((p_s.getD k8 d_Idx).Name)), .int .i64 ((p_s.getD k8 d_Idx).Col), .int .i64 ((p_s.getD k8 d_Idx).Stage)]) Try.ty171 rfl rfl eC26 rfl (sd rfl (yl_callv hen5 rfl rfl (opvs_cons rfl opvs_nil) (Cal.mono (hfn6 w14 (p_s.getD k8 d_Idx) hf23 (getD_mem (by omega)) (okL.getD o2 ok_d_Idx _)) ?_))))))
   rintro v28 w27 ⟨rfl, hE29⟩
   have hE29z := Ex.size hE29
   refine SeqR.done (tn (bcase (p_f (p_s.getD k8 d_Idx)) (fun hb30 => ?_) (fun hb30 => ?_)))
   ·refine CW.cond_t rfl hb30 (CW.seq (CW.region (sd rfl (yl_move rfl rfl (sd rfl (yl_assign rfl rfl (SeqR.done (tn (CW.ret (br ?_))))))))))
    refine tr (tr ?_)
    have hB32 : B_g_slices_IndexFunc_Idx_0 p_s p_f k8 () = .ret (k8 : Int) := by simp only [B_g_slices_IndexFunc_Idx_0, hb30, cond_true, cond_false, loopE_done, loopE_ret]
    have hL31 : loopM (B_g_slices_IndexFunc_Idx_0 p_s p_f) (p_s.length - 0) 0 () = .ret (k8 : Int) := hI16.symm.trans (loopM.ret hlt25 hB32)
    refine br (tr (rr rfl (.cons rfl .nil) ?_))
    have hM33 : (g_slices_IndexFunc_Idx p_s p_f) = ((k8 : Int)) := by simp only [g_slices_IndexFunc_Idx, hb30, hL31, cond_true, cond_false, loopE_done, loopE_ret]
    rw [hM33]
    exact ⟨rfl, (Ex.trans hf23 hE29)⟩
   ·refine CW.cond_f rfl hb30 (CW.skip (bn (tn (CW.region (sd rfl (yl_inc rfl rfl rfl (by omega) (sd rfl (yl_move rfl rfl (SeqR.done (tn ?_))))))))))
    have hB35 : B_g_slices_IndexFunc_Idx_0 p_s p_f k8 () = .cont () := by simp only [B_g_slices_IndexFunc_Idx_0, hb30, cond_true, cond_false, loopE_done, loopE_ret]
    exact ⟨p_s.length - (k8 + 1), by omega, k8 + 1, rfl, hlt25, (by omega), rfl, rfl, rfl, rfl, (RdS.ex good_Idx hf22 hE29), (Ex.trans hf23 hE29), (loopM.cont hlt25 hB35).symm.trans hI16⟩
  ·refine CW.seq (CW.region (sd rfl (yl_lss rfl rfl rfl (SeqR.done (tn (CW.seq (CW.cond_f rfl (lt_f hlt25) (CW.exit (tx ?_)))))))))
   refine tx ?_
   have hL38 : loopM (B_g_slices_IndexFunc_Idx_0 p_s p_f) (p_s.length - 0) 0 () = .done () := hI16.symm.trans (loopM.stop hlt25)
   refine bx (tn (CW.seq (CW.region (sd rfl (yl_assign rfl rfl (SeqR.done (tn (CW.ret (rr rfl (.cons rfl .nil) ?_)))))))))
   have hM39 : (g_slices_IndexFunc_Idx p_s p_f) = (-1) := by simp only [g_slices_IndexFunc_Idx, hL38, cond_true, cond_false, loopE_done, loopE_ret]
   rw [hM39]
   exact ⟨rfl, hf23⟩
set_option maxRecDepth 100000 in
set_option maxHeartbeats 2000000 in
theorem c_i_Table_findIdx_c1 {b2 : Nat} {w : World} (p_x : DIdx) (p_cap0 : Str) (h3 : Box w b2 9 [.string (bs (p_cap0))]) (o1 : ok_Idx p_x) (o4 : okS p_cap0) : Cal Try.prog 190 #[.agg #[.string (bs (p_x.Name)), .int .i64 (p_x.Col), .int .i64 (p_x.Stage)], .pointer (some ⟨b2, 0, none⟩)] w fun v w' => v = .bool ((i_Table_findIdx_c1 p_x p_cap0)) ∧ Ex w w' := by
 have hol5 : p_x.Name.length ≤ 1073741824 := o1
 have hol6 : p_cap0.length ≤ 1073741824 := o4
 refine Cal.of (vs := [.agg #[.string (bs (p_x.Name)), .int .i64 (p_x.Col), .int .i64 (p_x.Stage)], .pointer (some ⟨b2, 0, none⟩)]) Try.func190 rfl Try.ntmps190 rfl (CW.seq (CW.region (sd rfl (yl_box (cs := [.string (bs (p_x.Name)), .int .i64 (p_x.Col), .int .i64 (p_x.Stage)]) rfl rfl rfl ?_))))
 intro b7 w8 hs9 hz10 hB11 hE12
 refine sd rfl (yl_assign rfl rfl (SeqR.done (tn (CW.seq (CW.region (sd rfl (yl_fieldAddr Try.fd171_0 rfl rfl (sd rfl (yl_load1 Try.ty9 rfl rfl ((hB11.cell 0).trans rfl) (sd rfl (yl_load1 Try.ty9 rfl rfl (((Box.ex h3 hE12).cell 0).trans rfl) (sd rfl (yl_seql (a := p_x.Name) (b := p_cap0) rfl rfl rfl ?_)))))))))))))
 refine sd rfl (yl_assign rfl rfl (SeqR.done (tn (CW.ret (rr rfl (.cons rfl .nil) ?_)))))
 have hM14 : (i_Table_findIdx_c1 p_x p_cap0) = (p_x.Name == p_cap0) := by simp only [i_Table_findIdx_c1, cond_true, cond_false, loopE_done, loopE_ret]
 rw [hM14]
 exact ⟨rfl, (Ex.trans (Ex.refl w) hE12)⟩
set_option maxRecDepth 100000 in
set_option maxHeartbeats 2000000 in
theorem c_i_Table_findIdx {A1 : Option Addr} {c1 : Nat} {A2 : Option Addr} {c2 : Nat} {w : World} (p_t : DTable) (p_name : Str) (h1 : RdS w (Iv 0 w.heap.size) (RF e_Str) 1 A1 p_t.Cols.length c1 p_t.Cols) (h2 : RdS w (Iv 0 w.heap.size) (RF e_Idx) 3 A2 p_t.Idxs.length c2 p_t.Idxs) (o3 : ok_Table p_t) (o4 : okS p_name) : Cal Try.prog 143 #[.agg #[.string (bs (p_t.Name)), .slice A1 p_t.Cols.length c1, .slice A2 p_t.Idxs.length c2], .string (bs (p_name))] w fun v w' => v = .int .i64 ((i_Table_findIdx p_t p_name)) ∧ Ex w w' := by
 have hol5 : p_t.Name.length ≤ 1073741824 := o3.1
 have hol6 := o3.2.1.1
 have hol7 := o3.2.2.1
 have hol8 : p_name.length ≤ 1073741824 := o4
 refine Cal.of (vs := [.agg #[.string (bs (p_t.Name)), .slice A1 p_t.Cols.length c1, .slice A2 p_t.Idxs.length c2], .string (bs (p_name))]) Try.func143 rfl Try.ntmps143 rfl (CW.seq (CW.region (sd rfl (yl_box (cs := [.string (bs (p_t.Name)), .slice A1 p_t.Cols.length c1, .slice A2 p_t.Idxs.length c2]) rfl rfl rfl ?_))))
 intro b9 w10 hs11 hz12 hB13 hE14
 refine sd rfl (yl_box (cs := [.string (bs (p_name))]) rfl rfl rfl ?_)
 intro b15 w16 hs17 hz18 hB19 hE20
 refine sd rfl (yl_assign rfl rfl (SeqR.done (tn (CW.seq (CW.region (sd rfl (yl_fieldAddr Try.fd36_2 rfl rfl (sd rfl (yl_load1 Try.ty34 rfl rfl (((Box.ex hB13 hE20).cell 2).trans rfl) (sd rfl (yl_makeFunc rfl (opvs_cons rfl opvs_nil) (sd rfl (yl_call Try.en189 rfl (opvs_cons rfl (opvs_cons rfl opvs_nil)) (Cal.mono (c_g_slices_IndexFunc_Idx p_t.Idxs (fun y0 => i_Table_findIdx_c1 y0 p_name) (RdS.up (RdS.ex good_Idx (RdS.ex good_Idx h2 hE14) hE20) good_Idx) Try.en190 (fun _ y0 => fun hE hm0 ov0 => c_i_Table_findIdx_c1 y0 p_name (Box.ex hB19 hE) ov0 o4) o3.2.2) ?_))))))))))))))
 rintro v25 w24 ⟨rfl, hE26⟩
 have hE26z := Ex.size hE26
 refine sd rfl (yl_assign rfl rfl (SeqR.done (tn (CW.ret (rr rfl (.cons rfl .nil) ?_)))))
 have hM27 : (i_Table_findIdx p_t p_name) = ((g_slices_IndexFunc_Idx p_t.Idxs (fun y0 => i_Table_findIdx_c1 y0 p_name))) := by simp only [i_Table_findIdx, cond_true, cond_false, loopE_done, loopE_ret]
 rw [hM27]
 exact ⟨rfl, (Ex.trans (Ex.trans (Ex.trans (Ex.refl w) hE14) hE20) hE26)⟩
set_option maxRecDepth 100000 in
set_option maxHeartbeats 2000000 in
theorem c_i_hasIdx {A1 : Option Addr} {c1 : Nat} {A2 : Option Addr} {c2 : Nat} {w : World} (p_t : DTable) (p_name : Str) (h1 : RdS w (Iv 0 w.heap.size) (RF e_Str) 1 A1 p_t.Cols.length c1 p_t.Cols) (h2 : RdS w (Iv 0 w.heap.size) (RF e_Idx) 3 A2 p_t.Idxs.length c2 p_t.Idxs) (o3 : ok_Table p_t) (o4 : okS p_name) : Cal Try.prog 92 #[.agg #[.string (bs (p_t.Name)), .slice A1 p_t.Cols.length c1, .slice A2 p_t.Idxs.length c2], .string (bs (p_name))] w fun v w' => v = .bool ((i_hasIdx p_t p_name)) ∧ Ex w w' := by
 have hol5 : p_t.Name.length ≤ 1073741824 := o3.1
 have hol6 := o3.2.1.1
 have hol7 := o3.2.2.1
 have hol8 : p_name.length ≤ 1073741824 := o4
 refine Cal.of (vs := [.agg #[.string (bs (p_t.Name)), .slice A1 p_t.Cols.length c1, .slice A2 p_t.Idxs.length c2], .string (bs (p_name))]) Try.func92 rfl Try.ntmps92 rfl (CW.seq (CW.region (sd rfl (yl_box (cs := [.string (bs (p_t.Name)), .slice A1 p_t.Cols.length c1, .slice A2 p_t.Idxs.length c2]) rfl rfl rfl ?_))))
 intro b9 w10 hs11 hz12 hB13 hE14
 refine sd rfl (yl_assign rfl rfl (SeqR.done (tn (CW.seq (CW.region (sd rfl (yl_loadN (cs := [.string (bs (p_t.Name)), .slice A1 p_t.Cols.length c1, .slice A2 p_t.Idxs.length c2]) Try.ty36 rfl rfl (hB13.cells (n := 3) rfl) rfl ?_)))))))
 have q15 := RdS.ex good_Str h1 hE14
 have q16 := RdS.ex good_Idx h2 hE14
 refine sd rfl (yl_call Try.en130 rfl (opvs_cons rfl opvs_nil) (Cal.mono (c_i_GoodTable p_t (RdS.up q15 good_Str) (RdS.up q16 good_Idx) o3) ?_))
 rintro v18 w17 ⟨rfl, hE19⟩
 have hE19z := Ex.size hE19
 refine sd rfl (yl_move rfl rfl (bcase (i_GoodTable p_t) (fun hb20 => ?_) (fun hb20 => ?_)))
 ·have hb20p := f_i_GoodTable hb20
  refine sy rfl rfl hb20 (yl_loadN (cs := [.string (bs (p_t.Name)), .slice A1 p_t.Cols.length c1, .slice A2 p_t.Idxs.length c2]) Try.ty36 rfl rfl ((Box.ex hB13 hE19).cells (n := 3) rfl) rfl (sy rfl rfl hb20 (yl_move rfl rfl (sy rfl rfl hb20 (yl_call Try.en143 rfl (opvs_cons rfl (opvs_cons rfl opvs_nil)) (Cal.mono (c_i_Table_findIdx p_t p_name (RdS.up (RdS.ex good_Str q15 hE19) good_Str) (RdS.up (RdS.ex good_Idx q16 hE19) good_Idx) o3 o4) ?_))))))
  rintro v25 w24 ⟨rfl, hE26⟩
  have hE26z := Ex.size hE26
  have hrf27 := rf_i_findIdx p_t p_name
  refine sy rfl rfl hb20 (yl_geq rfl rfl rfl (sd rfl (yl_pick_t rfl rfl hb20 rfl (sd rfl (yl_assign rfl rfl (SeqR.done (tn (CW.ret (rr rfl (.cons rfl .nil) ?_)))))))))
  have hM28 : (i_hasIdx p_t p_name) = (decide (0 ≤ (i_Table_findIdx p_t p_name))) := by simp only [i_hasIdx, hb20, cond_true, cond_false, loopE_done, loopE_ret]
  rw [hM28]
  exact ⟨rfl, (Ex.trans (Ex.trans (Ex.trans (Ex.refl w) hE14) hE19) hE26)⟩
 ·refine sz rfl rfl hb20 (sz rfl rfl hb20 (sz rfl rfl hb20 (sz rfl rfl hb20 (sd rfl (yl_pick_f rfl rfl hb20 rfl (sd rfl (yl_assign rfl rfl (SeqR.done (tn (CW.ret ?_))))))))))
  refine rr rfl (.cons rfl .nil) ?_
  have hM32 : (i_hasIdx p_t p_name) = (false) := by simp only [i_hasIdx, hb20, cond_true, cond_false, loopE_done, loopE_ret]
  rw [hM32]
  exact ⟨rfl, (Ex.trans (Ex.trans (Ex.refl w) hE14) hE19)⟩
set_option maxRecDepth 100000 in
set_option maxHeartbeats 2000000 in
theorem c_i_Table_idx {A1 : Option Addr} {c1 : Nat} {A2 : Option Addr} {c2 : Nat} {w : World} (p_t : DTable) (p_name : Str) (h1 : RdS w (Iv 0 w.heap.size) (RF e_Str) 1 A1 p_t.Cols.length c1 p_t.Cols) (h2 : RdS w (Iv 0 w.heap.size) (RF e_Idx) 3 A2 p_t.Idxs.length c2 p_t.Idxs) (o3 : ok_Table p_t) (o4 : okS p_name) (pre0 : (0 ≤ i_Table_findIdx p_t p_name ∧ i_Table_findIdx p_t p_name < (p_t.Idxs.length : Int))) : Cal Try.prog 144 #[.agg #[.string (bs (p_t.Name)), .slice A1 p_t.Cols.length c1, .slice A2 p_t.Idxs.length c2], .string (bs (p_name))] w fun v w' => v = .agg #[.string (bs ((i_Table_idx p_t p_name).Name)), .int .i64 ((i_Table_idx p_t p_name).Col), .int .i64 ((i_Table_idx p_t p_name).Stage)] ∧ ok_Idx (i_Table_idx p_t p_name) ∧ Ex w w' := by
 have hol5 : p_t.Name.length ≤ 1073741824 := o3.1
 have hol6 := o3.2.1.1
 have hol7 := o3.2.2.1
 have hol8 : p_name.length ≤ 1073741824 := o4
 refine Cal.of (vs := [.agg #[.string (bs (p_t.Name)), .slice A1 p_t.Cols.length c1, .slice A2 p_t.Idxs.length c2], .string (bs (p_name))]) Try.func144 rfl Try.ntmps144 rfl (CW.seq (CW.region (sd rfl (yl_box (cs := [.string (bs (p_t.Name)), .slice A1 p_t.Cols.length c1, .slice A2 p_t.Idxs.length c2]) rfl rfl rfl ?_))))
 intro b9 w10 hs11 hz12 hB13 hE14
 refine sd rfl (yl_alloc Try.ty171 (cs := [.string (bs (([] : Str))), .int .i64 (0), .int .i64 (0)]) rfl rfl ?_)
 intro b15 w16 hs17 hz18 hB19 hE20
 refine SeqR.done (tn (CW.seq ?_))
 have q21 := Box.ex hB13 hE20
 have q25 := RdS.ex good_Idx (RdS.ex good_Idx h2 hE14) hE20
 have hrf27 := rf_i_findIdx p_t p_name
 refine CW.drawsI 5 (vgetI [DetI (.pointer (some ⟨b9, 0 + 2, none⟩)), DetI (.slice A2 p_t.Idxs.length c2), DetI (.agg #[.string (bs (p_t.Name)), .slice A1 p_t.Cols.length c1, .slice A2 p_t.Idxs.length c2]), DetI (.string (bs (p_name))), DetI (.int .i64 ((i_Table_findIdx p_t p_name)))]) Try.follows rfl rfl rfl rfl rfl rfl (vgetI_stable ⟨StableI.det _, StableI.det _, StableI.det _, StableI.det _, StableI.det _, trivial⟩) ⟨?_, ?_, ?_, ?_, ?_, trivial⟩ ?_
 ·exact fun _ _ h => os rfl ((yl_fieldAddr Try.fd36_2 rfl (h.old 2 _ rfl rfl) kI))
 ·exact fun _ _ h => os rfl ((yl_load1 Try.ty34 rfl (h.dt 0 5 rfl rfl rfl) (((Box.ex q21 h.ex).cell 2).trans rfl) kI))
 ·exact fun _ _ h => os rfl ((yl_loadN (cs := [.string (bs (p_t.Name)), .slice A1 p_t.Cols.length c1, .slice A2 p_t.Idxs.length c2]) Try.ty36 rfl (h.old 2 _ rfl rfl) ((Box.ex q21 h.ex).cells (n := 3) rfl) rfl kI))
 ·exact fun _ _ h => os rfl ((yl_move rfl (h.old 1 _ rfl rfl) kI))
 ·intro L50 w51 hi52
  have hE53 := hi52.ex
  refine OpR.op' rfl (yl_call Try.en143 rfl (opvs_cons (hi52.dt 2 7 rfl rfl rfl) (opvs_cons (hi52.dt 3 8 rfl rfl rfl) opvs_nil)) (Cal.mono (c_i_Table_findIdx p_t p_name (RdS.up (RdS.ex good_Str (RdS.ex good_Str (RdS.ex good_Str h1 hE14) hE20) hE53) good_Str) (RdS.up (RdS.ex good_Idx q25 hE53) good_Idx) o3 o4) ?_))
  rintro v59 w58 ⟨rfl, hE60⟩
  exact ⟨rfl, hE60⟩
 ·intro fl64 fh65 L61 w62 hp63
  have hE66 := hp63.ex
  have hE66z := Ex.size hE66
  have hx67 := hp63.old 4 _ rfl rfl
  obtain ⟨eb71, eo71, ec71, eA71, eS71, ebl71, el71, eR71, eC71⟩ := RdS.atD (RdS.ex good_Idx q25 hE66) d_Idx (i := ((i_Table_findIdx p_t p_name)).toNat) (by first | omega | assumption | (simp only [IntKind.wrap_i64] at *; omega))
  obtain rfl := eR71
  have eC71 : Cells w62 eb71 (eo71 + (((i_Table_findIdx p_t p_name)).toNat) * 3) [.string (bs ((p_t.Idxs.getD (((i_Table_findIdx p_t p_name)).toNat) d_Idx).Name)), .int .i64 ((p_t.Idxs.getD (((i_Table_findIdx p_t p_name)).toNat) d_Idx).Col), .int .i64 ((p_t.Idxs.getD (((i_Table_findIdx p_t p_name)).toNat) d_Idx).Stage)] := eC71
  refine sd rfl (yl_indexAddr Try.un34 Try.ty171 rfl (hp63.nt 1 6 rfl rfl rfl) (hp63.nt 4 9 rfl rfl rfl) eA71 (by first | omega | assumption | (simp only [IntKind.wrap_i64] at *; omega)) (by first | omega | assumption | (simp only [IntKind.wrap_i64] at *; omega)) (sd rfl (yl_loadN (cs := [.string (bs ((p_t.Idxs.getD (((i_Table_findIdx p_t p_name)).toNat) d_Idx).Name)), .int .i64 ((p_t.Idxs.getD (((i_Table_findIdx p_t p_name)).toNat) d_Idx).Col), .int .i64 ((p_t.Idxs.getD (((i_Table_findIdx p_t p_name)).toNat) d_Idx).Stage)]) Try.ty171 rfl rfl eC71 rfl (SeqR.u rfl rfl (yl_store (vs := [.string (bs ((p_t.Idxs.getD (((i_Table_findIdx p_t p_name)).toNat) d_Idx).Name)), .int .i64 ((p_t.Idxs.getD (((i_Table_findIdx p_t p_name)).toNat) d_Idx).Col), .int .i64 ((p_t.Idxs.getD (((i_Table_findIdx p_t p_name)).toNat) d_Idx).Stage)]) Try.ty171 rfl hx67 rfl rfl rfl rfl (Box.ex hB19 hE66) (Nat.le_of_ble_eq_true rfl) ?_)))))
  intro w73 hB74 hO75
  have hB74 : Box w73 b15 171 [.string (bs ((p_t.Idxs.getD (((i_Table_findIdx p_t p_name)).toNat) d_Idx).Name)), .int .i64 ((p_t.Idxs.getD (((i_Table_findIdx p_t p_name)).toNat) d_Idx).Col), .int .i64 ((p_t.Idxs.getD (((i_Table_findIdx p_t p_name)).toNat) d_Idx).Stage)] := hB74
  have hO75z := hO75.size
  refine SeqR.done (tn (CW.sub (Sub.cons (d := 4) hx67 (Sub.nil _)) (CW.ret (rr rfl (.cons ⟨_, rfl, run_loadN Try.ty171 (cs := [.string (bs ((p_t.Idxs.getD (((i_Table_findIdx p_t p_name)).toNat) d_Idx).Name)), .int .i64 ((p_t.Idxs.getD (((i_Table_findIdx p_t p_name)).toNat) d_Idx).Col), .int .i64 ((p_t.Idxs.getD (((i_Table_findIdx p_t p_name)).toNat) d_Idx).Stage)]) rfl (hB74.cells (n := 3) rfl)⟩ .nil) ?_))))
  have hM76 : (i_Table_idx p_t p_name) = ((p_t.Idxs.getD (((i_Table_findIdx p_t p_name)).toNat) d_Idx)) := by simp only [i_Table_idx, cond_true, cond_false, loopE_done, loopE_ret]
  rw [hM76]
  exact ⟨rfl, (okL.getD o3.2.2 ok_d_Idx _), (Below.only (Ex.trans (Ex.trans (Ex.trans (Ex.refl w) hE14) hE20) hE66) hO75 (by omega))⟩
set_option maxRecDepth 100000 in
set_option maxHeartbeats 2000000 in
theorem c_g_slices_Clone_string {A1 : Option Addr} {c1 : Nat} {w : World} (p_s : List Str) (h1 : RdS w (Iv 0 w.heap.size) (RF e_Str) 1 A1 p_s.length c1 p_s) (o2 : (okL okS) p_s) : Cal Try.prog 191 #[.slice A1 p_s.length c1] w fun v w' => ∃ A_1 c_1 lo_1 hi_1, v = .slice A_1 ((g_slices_Clone_string p_s).length) c_1 ∧ OwnL w' lo_1 hi_1 9 1 (RF e_Str) A_1 ((g_slices_Clone_string p_s).length) c_1 (g_slices_Clone_string p_s) ∧ (okL okS) (g_slices_Clone_string p_s) ∧ (w.heap.size ≤ lo_1 ∧ lo_1 ≤ hi_1 ∧ hi_1 ≤ w'.heap.size) ∧ Ex w w' := by
 have hol3 := o2.1
 refine Cal.of (vs := [.slice A1 p_s.length c1]) Try.func191 rfl Try.ntmps191 rfl (CW.seq (CW.region (sd rfl (yl_assign rfl rfl (SeqR.done (tn (CW.seq (CW.seq (CW.region ?_)))))))))
 refine sd rfl (yl_move rfl rfl (sd rfl (yl_snil Try.un22 rfl rfl rfl (SeqR.done (tn (bcase (A1.isNone) (fun hb4 => ?_) (fun hb4 => ?_)))))))
 ·have hnil5 : p_s = [] := RdS.nilA h1 hb4
  refine CW.cond_t rfl hb4 (CW.seq (CW.region (sd rfl (yl_assign rfl rfl (SeqR.done (tn (CW.ret (tr (rr rfl (.cons rfl .nil) ?_)))))))))
  have hM6 : (g_slices_Clone_string p_s) = (([] : List Str)) := by simp only [g_slices_Clone_string, hnil5, cond_true, cond_false, loopE_done, loopE_ret, List.append_nil]
  rw [hM6]
  exact ⟨none, 0, w.heap.size, w.heap.size, rfl, (OwnL.nil _ _ _ _ _ _), (okL.nil _), (by omega), (Ex.refl w)⟩
 ·refine CW.cond_f rfl hb4 (CW.skip (tn (CW.seq (CW.region (sd rfl (yl_buildSlice (cs := []) Try.un22 Try.ty9 (by decide) rfl opvs_nil (by kernel_rfl) ?_))))))
  intro b7 w8 hs9 hz10 hB11 hE12
  have hO13 : OwnL w8 b7 (b7 + 1) 9 1 (RF e_Str) (some ⟨b7, 0, none⟩) 0 0 ([] : List Str) := OwnL.of_box (S := fun _ => False) hB11 (Nat.le_refl _) (Nat.lt_succ_self _) EncL.nil (Nat.le_of_ble_eq_true rfl) (fun h => h) (fun _ h => False.elim h)
  refine sd rfl (yl_move rfl rfl ?_)
  obtain ⟨nw15, he16, hs17⟩ := RdS.src (RdS.ex good_Str h1 hE12)
  have hol18 : p_s.length ≤ 1073741824 := o2.1
  refine sd rfl (yl_appendL (S := (fun _ => False)) (lo := b7) (hi := (b7 + 1)) (xs := ([] : List Str)) (ys := p_s) good_Str Try.un22 Try.ty9 rfl (Nat.le_of_ble_eq_true rfl) rfl rfl rfl hO13 he16 hs17 rfl (by first | omega | (simp only [List.length_append, List.length_cons, List.length_nil, List.length_take, List.length_drop, List.length_replicate, List.length_set, toS_length]; omega)) (by first | omega | (simp only [List.length_append, List.length_cons, List.length_nil, List.length_take, List.length_drop, List.length_replicate, List.length_set, toS_length]; omega)) (by omega) (by omega) (fun _ h _ => False.elim h) (by omega) ?_)
  intro A19 c20 w21 row22 hO23 hG24 hrg25
  have hG24z := hG24.size
  refine sd rfl (yl_assign rfl rfl (SeqR.done (tn (CW.ret (rr rfl (.cons rfl .nil) ?_)))))
  have hM26 : (g_slices_Clone_string p_s) = ((([] : List Str) ++ p_s)) := by simp only [g_slices_Clone_string, cond_true, cond_false, loopE_done, loopE_ret]
  have hol27 : p_s.length ≤ 1073741824 := o2.1
  rw [hM26]
  exact ⟨A19, c20, b7, w21.heap.size, rfl, hO23, (okL.mk (xs := (([] : List Str) ++ p_s)) (by first | omega | (simp only [List.length_append, List.length_cons, List.length_nil, List.length_take, List.length_drop, List.length_replicate, List.length_set, toS_length]; omega)) (okE.append okE.nil (o2).2)), (by omega), (Below.grown (Ex.trans (Ex.refl w) hE12) hG24 (by omega) (fun k hk => by have := hrg25 k hk; omega))⟩
set_option maxRecDepth 100000 in
set_option maxHeartbeats 2000000 in
theorem c_g_slices_Clone_Idx {A1 : Option Addr} {c1 : Nat} {w : World} (p_s : List DIdx) (h1 : RdS w (Iv 0 w.heap.size) (RF e_Idx) 3 A1 p_s.length c1 p_s) (o2 : (okL ok_Idx) p_s) : Cal Try.prog 192 #[.slice A1 p_s.length c1] w fun v w' => ∃ A_1 c_1 lo_1 hi_1, v = .slice A_1 ((g_slices_Clone_Idx p_s).length) c_1 ∧ OwnL w' lo_1 hi_1 171 3 (RF e_Idx) A_1 ((g_slices_Clone_Idx p_s).length) c_1 (g_slices_Clone_Idx p_s) ∧ (okL ok_Idx) (g_slices_Clone_Idx p_s) ∧ (w.heap.size ≤ lo_1 ∧ lo_1 ≤ hi_1 ∧ hi_1 ≤ w'.heap.size) ∧ Ex w w' := by
 have hol3 := o2.1
 refine Cal.of (vs := [.slice A1 p_s.length c1]) Try.func192 rfl Try.ntmps192 rfl (CW.seq (CW.region (sd rfl (yl_assign rfl rfl (SeqR.done (tn (CW.seq (CW.seq (CW.region ?_)))))))))
 refine sd rfl (yl_move rfl rfl (sd rfl (yl_snil Try.un34 rfl rfl rfl (SeqR.done (tn (bcase (A1.isNone) (fun hb4 => ?_) (fun hb4 => ?_)))))))
 ·have hnil5 : p_s = [] := RdS.nilA h1 hb4
  refine CW.cond_t rfl hb4 (CW.seq (CW.region (sd rfl (yl_assign rfl rfl (SeqR.done (tn (CW.ret (tr (rr rfl (.cons rfl .nil) ?_)))))))))
  have hM6 : (g_slices_Clone_Idx p_s) = (([] : List DIdx)) := by simp only [g_slices_Clone_Idx, hnil5, cond_true, cond_false, loopE_done, loopE_ret, List.append_nil]
  rw [hM6]
  exact ⟨none, 0, w.heap.size, w.heap.size, rfl, (OwnL.nil _ _ _ _ _ _), (okL.nil _), (by omega), (Ex.refl w)⟩
 ·refine CW.cond_f rfl hb4 (CW.skip (tn (CW.seq (CW.region (sd rfl (yl_buildSlice (cs := []) Try.un34 Try.ty171 (by decide) rfl opvs_nil (by kernel_rfl) ?_))))))
  intro b7 w8 hs9 hz10 hB11 hE12
  have hO13 : OwnL w8 b7 (b7 + 1) 171 3 (RF e_Idx) (some ⟨b7, 0, none⟩) 0 0 ([] : List DIdx) := OwnL.of_box (S := fun _ => False) hB11 (Nat.le_refl _) (Nat.lt_succ_self _) EncL.nil (Nat.le_of_ble_eq_true rfl) (fun h => h) (fun _ h => False.elim h)
  refine sd rfl (yl_move rfl rfl ?_)
  obtain ⟨nw15, he16, hs17⟩ := RdS.src (RdS.ex good_Idx h1 hE12)
  have hol18 : p_s.length ≤ 1073741824 := o2.1
  refine sd rfl (yl_appendL (S := (fun _ => False)) (lo := b7) (hi := (b7 + 1)) (xs := ([] : List DIdx)) (ys := p_s) good_Idx Try.un34 Try.ty171 rfl (Nat.le_of_ble_eq_true rfl) rfl rfl rfl hO13 he16 hs17 rfl (by first | omega | (simp only [List.length_append, List.length_cons, List.length_nil, List.length_take, List.length_drop, List.length_replicate, List.length_set, toS_length]; omega)) (by first | omega | (simp only [List.length_append, List.length_cons, List.length_nil, List.length_take, List.length_drop, List.length_replicate, List.length_set, toS_length]; omega)) (by omega) (by omega) (fun _ h _ => False.elim h) (by omega) ?_)
  intro A19 c20 w21 row22 hO23 hG24 hrg25
  have hG24z := hG24.size
  refine sd rfl (yl_assign rfl rfl (SeqR.done (tn (CW.ret (rr rfl (.cons rfl .nil) ?_)))))
  have hM26 : (g_slices_Clone_Idx p_s) = ((([] : List DIdx) ++ p_s)) := by simp only [g_slices_Clone_Idx, cond_true, cond_false, loopE_done, loopE_ret]
  have hol27 : p_s.length ≤ 1073741824 := o2.1
  rw [hM26]
  exact ⟨A19, c20, b7, w21.heap.size, rfl, hO23, (okL.mk (xs := (([] : List DIdx) ++ p_s)) (by first | omega | (simp only [List.length_append, List.length_cons, List.length_nil, List.length_take, List.length_drop, List.length_replicate, List.length_set, toS_length]; omega)) (okE.append okE.nil (o2).2)), (by omega), (Below.grown (Ex.trans (Ex.refl w) hE12) hG24 (by omega) (fun k hk => by have := hrg25 k hk; omega))⟩
set_option maxRecDepth 100000 in
set_option maxHeartbeats 2000000 in
theorem c_i_copyTable {A1 : Option Addr} {c1 : Nat} {A2 : Option Addr} {c2 : Nat} {w : World} (p_t : DTable) (h1 : RdS w (Iv 0 w.heap.size) (RF e_Str) 1 A1 p_t.Cols.length c1 p_t.Cols) (h2 : RdS w (Iv 0 w.heap.size) (RF e_Idx) 3 A2 p_t.Idxs.length c2 p_t.Idxs) (o3 : ok_Table p_t) : Cal Try.prog 145 #[.agg #[.string (bs (p_t.Name)), .slice A1 p_t.Cols.length c1, .slice A2 p_t.Idxs.length c2]] w fun v w' => ∃ A_1 c_1 lo_1 hi_1 A_2 c_2 lo_2 hi_2, v = .agg #[.string (bs ((i_copyTable p_t).Name)), .slice A_1 (((i_copyTable p_t).Cols).length) c_1, .slice A_2 (((i_copyTable p_t).Idxs).length) c_2] ∧ OwnL w' lo_1 hi_1 9 1 (RF e_Str) A_1 (((i_copyTable p_t).Cols).length) c_1 ((i_copyTable p_t).Cols) ∧ OwnL w' lo_2 hi_2 171 3 (RF e_Idx) A_2 (((i_copyTable p_t).Idxs).length) c_2 ((i_copyTable p_t).Idxs) ∧ ok_Table (i_copyTable p_t) ∧ (w.heap.size ≤ lo_1 ∧ lo_1 ≤ hi_1 ∧ hi_1 ≤ w'.heap.size) ∧ (w.heap.size ≤ lo_2 ∧ lo_2 ≤ hi_2 ∧ hi_2 ≤ w'.heap.size) ∧ (hi_1 ≤ lo_2 ∨ hi_2 ≤ lo_1) ∧ Ex w w' := by
 have hol4 : p_t.Name.length ≤ 1073741824 := o3.1
 have hol5 := o3.2.1.1
 have hol6 := o3.2.2.1
 refine Cal.of (vs := [.agg #[.string (bs (p_t.Name)), .slice A1 p_t.Cols.length c1, .slice A2 p_t.Idxs.length c2]]) Try.func145 rfl Try.ntmps145 rfl (CW.seq (CW.region (sd rfl (yl_box (cs := [.string (bs (p_t.Name)), .slice A1 p_t.Cols.length c1, .slice A2 p_t.Idxs.length c2]) rfl rfl rfl ?_))))
 intro b7 w8 hs9 hz10 hB11 hE12
 refine sd rfl (yl_alloc Try.ty36 (cs := [.string (bs (([] : Str))), .slice none 0 0, .slice none 0 0]) rfl rfl ?_)
 intro b13 w14 hs15 hz16 hB17 hE18
 refine SeqR.done (tn (CW.seq ?_))
 have q19 := Box.ex hB11 hE18
 refine CW.drawsI 8 (vgetI [DetI (.pointer (some ⟨b7, 0 + 0, none⟩)), DetI (.string (bs (p_t.Name))), DetI (.pointer (some ⟨b7, 0 + 1, none⟩)), DetI (.slice A1 p_t.Cols.length c1), fun lo hi v wq => ∃ A23 c23 lo23 hi23, v = .slice A23 ((g_slices_Clone_string p_t.Cols).length) c23 ∧ OwnL wq lo23 hi23 9 1 (RF e_Str) A23 ((g_slices_Clone_string p_t.Cols).length) c23 (g_slices_Clone_string p_t.Cols) ∧ (okL okS) (g_slices_Clone_string p_t.Cols) ∧ (lo ≤ lo23 ∧ lo23 ≤ hi23 ∧ hi23 ≤ hi), DetI (.pointer (some ⟨b7, 0 + 2, none⟩)), DetI (.slice A2 p_t.Idxs.length c2), fun lo hi v wq => ∃ A28 c28 lo28 hi28, v = .slice A28 ((g_slices_Clone_Idx p_t.Idxs).length) c28 ∧ OwnL wq lo28 hi28 171 3 (RF e_Idx) A28 ((g_slices_Clone_Idx p_t.Idxs).length) c28 (g_slices_Clone_Idx p_t.Idxs) ∧ (okL ok_Idx) (g_slices_Clone_Idx p_t.Idxs) ∧ (lo ≤ lo28 ∧ lo28 ≤ hi28 ∧ hi28 ≤ hi)]) Try.follows rfl rfl rfl rfl rfl rfl (vgetI_stable ⟨StableI.det _, StableI.det _, StableI.det _, StableI.det _, (fun _ _ _ _ _ ⟨A23, c23, lo23, hi23, hv, h23, ho24, hr0⟩ e => ⟨A23, c23, lo23, hi23, hv, OwnL.ex good_Str h23 e, ho24, hr0⟩), StableI.det _, StableI.det _, (fun _ _ _ _ _ ⟨A28, c28, lo28, hi28, hv, h28, ho29, hr0⟩ e => ⟨A28, c28, lo28, hi28, hv, OwnL.ex good_Idx h28 e, ho29, hr0⟩), trivial⟩) ⟨?_, ?_, ?_, ?_, ?_, ?_, ?_, ?_, trivial⟩ ?_
 ·exact fun _ _ h => os rfl ((yl_fieldAddr Try.fd36_0 rfl (h.old 1 _ rfl rfl) kI))
 ·exact fun _ _ h => os rfl ((yl_load1 Try.ty9 rfl (h.dt 0 3 rfl rfl rfl) (((Box.ex q19 h.ex).cell 0).trans rfl) kI))
 ·exact fun _ _ h => os rfl ((yl_fieldAddr Try.fd36_1 rfl (h.old 1 _ rfl rfl) kI))
 ·exact fun _ _ h => os rfl ((yl_load1 Try.ty22 rfl (h.dt 2 5 rfl rfl rfl) (((Box.ex q19 h.ex).cell 1).trans rfl) kI))
 ·intro L52 w53 hi54
  have hE55 := hi54.ex
  refine OpR.op' rfl (yl_call Try.en191 rfl (opvs_cons (hi54.dt 3 6 rfl rfl rfl) opvs_nil) (Cal.mono (c_g_slices_Clone_string p_t.Cols (RdS.up (RdS.ex good_Str (RdS.ex good_Str (RdS.ex good_Str h1 hE12) hE18) hE55) good_Str) o3.2.1) ?_))
  rintro v61 w58 ⟨A59, c59, lo59, hi59, rfl, h59, ho60, hrn63, hE62⟩
  exact ⟨⟨A59, c59, lo59, hi59, rfl, h59, ho60, hrn63⟩, hE62⟩
 ·exact fun _ _ h => os rfl ((yl_fieldAddr Try.fd36_2 rfl (h.old 1 _ rfl rfl) kI))
 ·exact fun _ _ h => os rfl ((yl_load1 Try.ty34 rfl (h.dt 5 8 rfl rfl rfl) (((Box.ex q19 h.ex).cell 2).trans rfl) kI))
 ·intro L75 w76 hi77
  have hE78 := hi77.ex
  refine OpR.op' rfl (yl_call Try.en192 rfl (opvs_cons (hi77.dt 6 9 rfl rfl rfl) opvs_nil) (Cal.mono (c_g_slices_Clone_Idx p_t.Idxs (RdS.up (RdS.ex good_Idx (RdS.ex good_Idx (RdS.ex good_Idx h2 hE12) hE18) hE78) good_Idx) o3.2.2) ?_))
  rintro v84 w81 ⟨A82, c82, lo82, hi82, rfl, h82, ho83, hrn86, hE85⟩
  exact ⟨⟨A82, c82, lo82, hi82, rfl, h82, ho83, hrn86⟩, hE85⟩
 ·intro fl90 fh91 L87 w88 hp89
  have hE92 := hp89.ex
  have hE92z := Ex.size hE92
  have hx93 := hp89.old 2 _ rfl rfl
  have hr96 := hp89.rng 4 rfl
  obtain ⟨_, hx95, A23_97, c23_98, lo23_99, hi23_100, rfl, h101, h102, hrn103⟩ := hp89.new 4 7 rfl rfl
  have hr105 := hp89.rng 7 rfl
  have hsp106 := hp89.sep 4 7 rfl rfl rfl
  obtain ⟨_, hx104, A28_107, c28_108, lo28_109, hi28_110, rfl, h111, h112, hrn113⟩ := hp89.new 7 10 rfl rfl
  refine sd rfl (yl_build (cs := [.string (bs (p_t.Name)), .slice A23_97 ((g_slices_Clone_string p_t.Cols).length) c23_98, .slice A28_107 ((g_slices_Clone_Idx p_t.Idxs).length) c28_108]) rfl (opvs_cons (hp89.nt 1 4 rfl rfl rfl) (opvs_cons hx95 (opvs_cons hx104 opvs_nil))) (by kernel_rfl) (SeqR.u rfl rfl (yl_store (vs := [.string (bs (p_t.Name)), .slice A23_97 ((g_slices_Clone_string p_t.Cols).length) c23_98, .slice A28_107 ((g_slices_Clone_Idx p_t.Idxs).length) c28_108]) Try.ty36 rfl hx93 rfl rfl rfl rfl (Box.ex hB17 hE92) (Nat.le_of_ble_eq_true rfl) ?_)))
  intro w115 hB116 hO117
  have hB116 : Box w115 b13 36 [.string (bs (p_t.Name)), .slice A23_97 ((g_slices_Clone_string p_t.Cols).length) c23_98, .slice A28_107 ((g_slices_Clone_Idx p_t.Idxs).length) c28_108] := hB116
  have hO117z := hO117.size
  refine SeqR.done (tn (CW.sub (Sub.cons (d := 2) hx93 (Sub.nil _)) (CW.ret (rr rfl (.cons ⟨_, rfl, run_loadN Try.ty36 (cs := [.string (bs (p_t.Name)), .slice A23_97 ((g_slices_Clone_string p_t.Cols).length) c23_98, .slice A28_107 ((g_slices_Clone_Idx p_t.Idxs).length) c28_108]) rfl (hB116.cells (n := 3) rfl)⟩ .nil) ?_))))
  have hM118 : (i_copyTable p_t) = ((⟨p_t.Name, (g_slices_Clone_string p_t.Cols), (g_slices_Clone_Idx p_t.Idxs)⟩ : DTable)) := by simp only [i_copyTable, cond_true, cond_false, loopE_done, loopE_ret]
  rw [hM118]
  exact ⟨A23_97, c23_98, lo23_99, hi23_100, A28_107, c28_108, lo28_109, hi28_110, rfl, (OwnL.only good_Str h101 hO117 (by omega)), (OwnL.only good_Idx h111 hO117 (by omega)), ⟨o3.1, h102, h112⟩, (by omega), (by omega), (by omega), (Below.only (Ex.trans (Ex.trans (Ex.trans (Ex.refl w) hE12) hE18) hE92) hO117 (by omega))⟩
set_option maxRecDepth 100000 in
set_option maxHeartbeats 2000000 in
theorem c_i_Table_withStage {A1 : Option Addr} {c1 : Nat} {A2 : Option Addr} {c2 : Nat} {w : World} (p_t : DTable) (p_name : Str) (p_stage : Int) (h1 : RdS w (Iv 0 w.heap.size) (RF e_Str) 1 A1 p_t.Cols.length c1 p_t.Cols) (h2 : RdS w (Iv 0 w.heap.size) (RF e_Idx) 3 A2 p_t.Idxs.length c2 p_t.Idxs) (o3 : ok_Table p_t) (o4 : okS p_name) (pre0 : (0 ≤ i_Table_findIdx p_t p_name ∧ i_Table_findIdx p_t p_name < (p_t.Idxs.length : Int))) : Cal Try.prog 146 #[.agg #[.string (bs (p_t.Name)), .slice A1 p_t.Cols.length c1, .slice A2 p_t.Idxs.length c2], .string (bs (p_name)), .int .i64 (p_stage)] w fun v w' => ∃ A_1 c_1 lo_1 hi_1 A_2 c_2 lo_2 hi_2, v = .agg #[.string (bs ((i_Table_withStage p_t p_name p_stage).Name)), .slice A_1 (((i_Table_withStage p_t p_name p_stage).Cols).length) c_1, .slice A_2 (((i_Table_withStage p_t p_name p_stage).Idxs).length) c_2] ∧ OwnL w' lo_1 hi_1 9 1 (RF e_Str) A_1 (((i_Table_withStage p_t p_name p_stage).Cols).length) c_1 ((i_Table_withStage p_t p_name p_stage).Cols) ∧ OwnL w' lo_2 hi_2 171 3 (RF e_Idx) A_2 (((i_Table_withStage p_t p_name p_stage).Idxs).length) c_2 ((i_Table_withStage p_t p_name p_stage).Idxs) ∧ ok_Table (i_Table_withStage p_t p_name p_stage) ∧ (w.heap.size ≤ lo_1 ∧ lo_1 ≤ hi_1 ∧ hi_1 ≤ w'.heap.size) ∧ (w.heap.size ≤ lo_2 ∧ lo_2 ≤ hi_2 ∧ hi_2 ≤ w'.heap.size) ∧ (hi_1 ≤ lo_2 ∨ hi_2 ≤ lo_1) ∧ Ex w w' := by
 have hol5 : p_t.Name.length ≤ 1073741824 := o3.1
 have hol6 := o3.2.1.1
 have hol7 := o3.2.2.1
 have hol8 : p_name.length ≤ 1073741824 := o4
 refine Cal.of (vs := [.agg #[.string (bs (p_t.Name)), .slice A1 p_t.Cols.length c1, .slice A2 p_t.Idxs.length c2], .string (bs (p_name)), .int .i64 (p_stage)]) Try.func146 rfl Try.ntmps146 rfl (CW.seq (CW.region (sd rfl (yl_box (cs := [.string (bs (p_t.Name)), .slice A1 p_t.Cols.length c1, .slice A2 p_t.Idxs.length c2]) rfl rfl rfl ?_))))
 intro b9 w10 hs11 hz12 hB13 hE14
 refine sd rfl (yl_alloc Try.ty36 (cs := [.string (bs (([] : Str))), .slice none 0 0, .slice none 0 0]) rfl rfl ?_)
 intro b15 w16 hs17 hz18 hB19 hE20
 refine SeqR.done (tn (CW.seq (CW.region ?_)))
 have q21 := Box.ex hB13 hE20
 refine sd rfl (yl_loadN (cs := [.string (bs (p_t.Name)), .slice A1 p_t.Cols.length c1, .slice A2 p_t.Idxs.length c2]) Try.ty36 rfl rfl (q21.cells (n := 3) rfl) rfl ?_)
 have q23 := RdS.ex good_Str (RdS.ex good_Str h1 hE14) hE20
 have q25 := RdS.ex good_Idx (RdS.ex good_Idx h2 hE14) hE20
 refine sd rfl (yl_call Try.en145 rfl (opvs_cons rfl opvs_nil) (Cal.mono (c_i_copyTable p_t (RdS.up q23 good_Str) (RdS.up q25 good_Idx) o3) ?_))
 rintro v30 w26 ⟨A27, c27, lo27, hi27, A28, c28, lo28, hi28, rfl, h27, h28, ho29, hrn32, hrn33, hrn34, hE31⟩
 have hE31z := Ex.size hE31
 have hrf35 := rf_copyTable p_t
 refine sd rfl (yl_alloc Try.ty36 (cs := [.string (bs (([] : Str))), .slice none 0 0, .slice none 0 0]) rfl rfl ?_)
 intro b36 w37 hs38 hz39 hB40 hE41
 refine SeqR.u rfl rfl (yl_store (vs := [.string (bs ((i_copyTable p_t).Name)), .slice A27 (((i_copyTable p_t).Cols).length) c27, .slice A28 (((i_copyTable p_t).Idxs).length) c28]) Try.ty36 rfl rfl rfl rfl rfl rfl hB40 (Nat.le_of_ble_eq_true rfl) ?_)
 intro w42 hB43 hO44
 have hB43 : Box w42 b36 36 [.string (bs ((i_copyTable p_t).Name)), .slice A27 (((i_copyTable p_t).Cols).length) c27, .slice A28 (((i_copyTable p_t).Idxs).length) c28] := hB43
 have hO44z := hO44.size
 refine SeqR.done (tn (CW.seq ?_))
 have hrf55 := rf_i_findIdx p_t p_name
 refine CW.drawsI 6 (vgetI [DetI (.pointer (some ⟨b36, 0 + 2, none⟩)), DetI (.slice A28 (((i_copyTable p_t).Idxs).length) c28), DetI (.agg #[.string (bs (p_t.Name)), .slice A1 p_t.Cols.length c1, .slice A2 p_t.Idxs.length c2]), DetI (.string (bs (p_name))), DetI (.int .i64 ((i_Table_findIdx p_t p_name))), DetI (.int .i64 (p_stage))]) Try.follows rfl rfl rfl rfl rfl rfl (vgetI_stable ⟨StableI.det _, StableI.det _, StableI.det _, StableI.det _, StableI.det _, StableI.det _, trivial⟩) ⟨?_, ?_, ?_, ?_, ?_, ?_, trivial⟩ ?_
 ·exact fun _ _ h => os rfl ((yl_fieldAddr Try.fd36_2 rfl (h.old 7 _ rfl rfl) kI))
 ·exact fun _ _ h => os rfl ((yl_load1 Try.ty34 rfl (h.dt 0 10 rfl rfl rfl) (((Box.ex hB43 h.ex).cell 2).trans rfl) kI))
 ·intro L67 w68 hi69
  have hE70 := hi69.ex
  have hE70z := Ex.size hE70
  exact os rfl ((yl_loadN (cs := [.string (bs (p_t.Name)), .slice A1 p_t.Cols.length c1, .slice A2 p_t.Idxs.length c2]) Try.ty36 rfl (hi69.old 3 _ rfl rfl) ((Box.ex (Box.only (Box.ex (Box.ex q21 hE31) hE41) hO44 (by omega)) hE70).cells (n := 3) rfl) rfl kI))
 ·exact fun _ _ h => os rfl ((yl_move rfl (h.old 1 _ rfl rfl) kI))
 ·intro L78 w79 hi80
  have hE81 := hi80.ex
  have hE81z := Ex.size hE81
  refine OpR.op' rfl (yl_call Try.en143 rfl (opvs_cons (hi80.dt 2 12 rfl rfl rfl) (opvs_cons (hi80.dt 3 13 rfl rfl rfl) opvs_nil)) (Cal.mono (c_i_Table_findIdx p_t p_name (RdS.up (RdS.ex good_Str (RdS.only good_Str (RdS.ex good_Str (RdS.ex good_Str q23 hE31) hE41) hO44 (by simp only [Iv]; omega)) hE81) good_Str) (RdS.up (RdS.ex good_Idx (RdS.only good_Idx (RdS.ex good_Idx (RdS.ex good_Idx q25 hE31) hE41) hO44 (by simp only [Iv]; omega)) hE81) good_Idx) o3 o4) ?_))
  rintro v87 w86 ⟨rfl, hE88⟩
  exact ⟨rfl, hE88⟩
 ·exact fun _ _ h => os rfl ((yl_move rfl (h.old 2 _ rfl rfl) kI))
 ·intro fl97 fh98 L94 w95 hp96
  have hE99 := hp96.ex
  have hE99z := Ex.size hE99
  have q108 := OwnL.ex good_Idx (OwnL.only good_Idx (OwnL.ex good_Idx h28 hE41) hO44 (by omega)) hE99
  obtain ⟨eb109, eo109, ec109, eA109, eS109, ebl109, el109, eR109, eC109⟩ := RdS.atD (OwnL.rd good_Idx q108) d_Idx (i := ((i_Table_findIdx p_t p_name)).toNat) (by first | omega | assumption | (simp only [IntKind.wrap_i64] at *; omega))
  obtain rfl := eR109
  have eC109 : Cells w95 eb109 (eo109 + (((i_Table_findIdx p_t p_name)).toNat) * 3) [.string (bs ((((i_copyTable p_t).Idxs).getD (((i_Table_findIdx p_t p_name)).toNat) d_Idx).Name)), .int .i64 ((((i_copyTable p_t).Idxs).getD (((i_Table_findIdx p_t p_name)).toNat) d_Idx).Col), .int .i64 ((((i_copyTable p_t).Idxs).getD (((i_Table_findIdx p_t p_name)).toNat) d_Idx).Stage)] := eC109
  refine sd rfl (yl_indexAddr Try.un34 Try.ty171 rfl (hp96.nt 1 11 rfl rfl rfl) (hp96.nt 4 14 rfl rfl rfl) eA109 (by first | omega | assumption | (simp only [IntKind.wrap_i64] at *; omega)) (by first | omega | assumption | (simp only [IntKind.wrap_i64] at *; omega)) (sd rfl (yl_fieldAddr Try.fd171_2 rfl rfl ?_)))
  have hrg110 := OwnL.rng q108 (i := ((i_Table_findIdx p_t p_name)).toNat) (by first | omega | assumption | (simp only [IntKind.wrap_i64] at *; omega)) eb109 (by rw [eA109]; rfl)
  refine SeqR.u rfl rfl (yl_storeF (off := eo109) (i := ((i_Table_findIdx p_t p_name)).toNat) (d := 2) (dx := d_Idx) (x' := (⟨(((i_copyTable p_t).Idxs).getD (((i_Table_findIdx p_t p_name)).toNat) d_Idx).Name, (((i_copyTable p_t).Idxs).getD (((i_Table_findIdx p_t p_name)).toNat) d_Idx).Col, p_stage⟩ : DIdx)) (vs := [.int .i64 (p_stage)]) Try.ty3 rfl q108 eA109 rfl (hp96.nt 5 15 rfl rfl rfl) rfl rfl rfl (by first | omega | assumption | (simp only [IntKind.wrap_i64] at *; omega)) (Nat.le_of_ble_eq_true rfl) rfl rfl ?_)
  intro w111 hB112 hO113
  have hO113z := hO113.size
  refine SeqR.done (tn (CW.sub (Sub.cons (d := 6) (hp96.old 6 _ rfl rfl) (Sub.cons (d := 7) (hp96.old 7 _ rfl rfl) (Sub.nil _))) (CW.seq (CW.region (sd rfl (yl_loadN (cs := [.string (bs ((i_copyTable p_t).Name)), .slice A27 (((i_copyTable p_t).Cols).length) c27, .slice A28 (((i_copyTable p_t).Idxs).length) c28]) Try.ty36 rfl rfl ((Box.only (Box.ex hB43 hE99) hO113 (by omega)).cells (n := 3) rfl) rfl (SeqR.u rfl rfl (yl_store (vs := [.string (bs ((i_copyTable p_t).Name)), .slice A27 (((i_copyTable p_t).Cols).length) c27, .slice A28 (((i_copyTable p_t).Idxs).length) c28]) Try.ty36 rfl rfl rfl rfl rfl rfl (Box.only (Box.ex (Box.only (Box.ex (Box.ex hB19 hE31) hE41) hO44 (by omega)) hE99) hO113 (by omega)) (Nat.le_of_ble_eq_true rfl) ?_))))))))
  intro w121 hB122 hO123
  have hB122 : Box w121 b15 36 [.string (bs ((i_copyTable p_t).Name)), .slice A27 (((i_copyTable p_t).Cols).length) c27, .slice A28 (((i_copyTable p_t).Idxs).length) c28] := hB122
  have hO123z := hO123.size
  refine SeqR.done (tn (CW.ret (rr rfl (.cons ⟨_, rfl, run_loadN Try.ty36 (cs := [.string (bs ((i_copyTable p_t).Name)), .slice A27 (((i_copyTable p_t).Cols).length) c27, .slice A28 (((i_copyTable p_t).Idxs).length) c28]) rfl (hB122.cells (n := 3) rfl)⟩ .nil) ?_)))
  have hM124 : (i_Table_withStage p_t p_name p_stage) = ((⟨(i_copyTable p_t).Name, (i_copyTable p_t).Cols, (((i_copyTable p_t).Idxs).set (((i_Table_findIdx p_t p_name)).toNat) (⟨(((i_copyTable p_t).Idxs).getD (((i_Table_findIdx p_t p_name)).toNat) d_Idx).Name, (((i_copyTable p_t).Idxs).getD (((i_Table_findIdx p_t p_name)).toNat) d_Idx).Col, p_stage⟩ : DIdx))⟩ : DTable)) := by simp only [i_Table_withStage, cond_true, cond_false, loopE_done, loopE_ret]
  have q130 := OwnL.only good_Idx hB112 hO123 (by omega)
  have hfx131 := (q130).1
  have hol132 : ((i_copyTable p_t).Idxs).length ≤ 1073741824 := ho29.2.2.1
  rw [hM124]
  exact ⟨A27, c27, lo27, hi27, A28, c28, lo28, hi28, (by first | rfl | (simp only [List.length_replicate, List.length_set]; done) | (simp only [List.length_replicate, List.length_set]; rfl) | rw [hfx131]), (OwnL.only good_Str (OwnL.only good_Str (OwnL.ex good_Str (OwnL.only good_Str (OwnL.ex good_Str h27 hE41) hO44 (by omega)) hE99) hO113 (by omega)) hO123 (by omega)), (OwnL.fix q130), ⟨ho29.1, ho29.2.1, (okL.mk (xs := (((i_copyTable p_t).Idxs).set (((i_Table_findIdx p_t p_name)).toNat) (⟨(((i_copyTable p_t).Idxs).getD (((i_Table_findIdx p_t p_name)).toNat) d_Idx).Name, (((i_copyTable p_t).Idxs).getD (((i_Table_findIdx p_t p_name)).toNat) d_Idx).Col, p_stage⟩ : DIdx))) (by first | omega | (simp only [List.length_append, List.length_cons, List.length_nil, List.length_take, List.length_drop, List.length_replicate, List.length_set, toS_length]; omega)) (okE.set (ho29.2.2).2 (okL.getD ho29.2.2 ok_d_Idx _)))⟩, (by omega), (by omega), (by omega), (Below.only (Below.only (Ex.trans (Below.only (Ex.trans (Ex.trans (Ex.trans (Ex.trans (Ex.refl w) hE14) hE20) hE31) hE41) hO44 (by omega)) hE99) hO113 (by omega)) hO123 (by omega))⟩
set_option maxRecDepth 100000 in
set_option maxHeartbeats 2000000 in
theorem c_i_Table_wayTo {A1 : Option Addr} {c1 : Nat} {A2 : Option Addr} {c2 : Nat} {w : World} (p_t : DTable) (p_name : Str) (p_stage : Int) (h1 : RdS w (Iv 0 w.heap.size) (RF e_Str) 1 A1 p_t.Cols.length c1 p_t.Cols) (h2 : RdS w (Iv 0 w.heap.size) (RF e_Idx) 3 A2 p_t.Idxs.length c2 p_t.Idxs) (o3 : ok_Table p_t) (o4 : okS p_name) (pre0 : (0 ≤ i_Table_findIdx p_t p_name ∧ i_Table_findIdx p_t p_name < (p_t.Idxs.length : Int))) (pre1 : (0 ≤ (i_Table_idx p_t p_name).Stage ∧ (i_Table_idx p_t p_name).Stage ≤ 3)) (pre2 : (0 ≤ p_stage ∧ p_stage ≤ 3)) : Cal Try.prog 94 #[.agg #[.string (bs (p_t.Name)), .slice A1 p_t.Cols.length c1, .slice A2 p_t.Idxs.length c2], .string (bs (p_name)), .int .i64 (p_stage)] w fun v w' => ∃ A_1 c_1 lo_1 hi_1, v = .slice A_1 ((i_Table_wayTo p_t p_name p_stage).length) c_1 ∧ OwnD w' lo_1 hi_1 36 3 RO_Table A_1 ((i_Table_wayTo p_t p_name p_stage).length) c_1 (i_Table_wayTo p_t p_name p_stage) ∧ (okL ok_Table) (i_Table_wayTo p_t p_name p_stage) ∧ (w.heap.size ≤ lo_1 ∧ lo_1 ≤ hi_1 ∧ hi_1 ≤ w'.heap.size) ∧ Ex w w' := by
 have hol5 : p_t.Name.length ≤ 1073741824 := o3.1
 have hol6 := o3.2.1.1
 have hol7 := o3.2.2.1
 have hol8 : p_name.length ≤ 1073741824 := o4
 refine Cal.of (vs := [.agg #[.string (bs (p_t.Name)), .slice A1 p_t.Cols.length c1, .slice A2 p_t.Idxs.length c2], .string (bs (p_name)), .int .i64 (p_stage)]) Try.func94 rfl Try.ntmps94 rfl (CW.seq (CW.region (sd rfl (yl_box (cs := [.string (bs (p_t.Name)), .slice A1 p_t.Cols.length c1, .slice A2 p_t.Idxs.length c2]) rfl rfl rfl ?_))))
 intro b9 w10 hs11 hz12 hB13 hE14
 refine sd rfl (yl_assign rfl rfl (SeqR.done (tn (CW.seq (CW.region (sd rfl (yl_loadN (cs := [.string (bs (p_t.Name)), .slice A1 p_t.Cols.length c1, .slice A2 p_t.Idxs.length c2]) Try.ty36 rfl rfl (hB13.cells (n := 3) rfl) rfl (sd rfl (yl_move rfl rfl ?_)))))))))
 have q15 := RdS.ex good_Str h1 hE14
 have q16 := RdS.ex good_Idx h2 hE14
 refine sd rfl (yl_call Try.en144 rfl (opvs_cons rfl (opvs_cons rfl opvs_nil)) (Cal.mono (c_i_Table_idx p_t p_name (RdS.up q15 good_Str) (RdS.up q16 good_Idx) o3 o4 (by first | omega | assumption | (simp only [IntKind.wrap_i64] at *; omega))) ?_))
 rintro v19 w17 ⟨rfl, ho18, hE20⟩
 have hE20z := Ex.size hE20
 refine sd rfl (yl_field1 Try.fd171_2 rfl rfl rfl (sd rfl (yl_assign rfl rfl (SeqR.done (tn (CW.seq (CW.region ?_)))))))
 have q21 := Box.ex hB13 hE20
 refine sd rfl (yl_loadN (cs := [.string (bs (p_t.Name)), .slice A1 p_t.Cols.length c1, .slice A2 p_t.Idxs.length c2]) Try.ty36 rfl rfl (q21.cells (n := 3) rfl) rfl ?_)
 have q22 := RdS.ex good_Str q15 hE20
 have q23 := RdS.ex good_Idx q16 hE20
 refine sd rfl (yl_call Try.en145 rfl (opvs_cons rfl opvs_nil) (Cal.mono (c_i_copyTable p_t (RdS.up q22 good_Str) (RdS.up q23 good_Idx) o3) ?_))
 rintro v28 w24 ⟨A25, c25, lo25, hi25, A26, c26, lo26, hi26, rfl, h25, h26, ho27, hrn30, hrn31, hrn32, hE29⟩
 have hE29z := Ex.size hE29
 have hrf33 := rf_copyTable p_t
 refine sd rfl (yl_buildSlice (cs := [.string (bs ((i_copyTable p_t).Name)), .slice A25 (((i_copyTable p_t).Cols).length) c25, .slice A26 (((i_copyTable p_t).Idxs).length) c26]) Try.un46 Try.ty36 (by decide) rfl (opvs_cons rfl opvs_nil) (by kernel_rfl) ?_)
 intro b34 w35 hs36 hz37 hB38 hE39
 have hO40 : OwnD w35 w17.heap.size (b34 + 1) 36 3 RO_Table (some ⟨b34, 0, none⟩) 1 1 ([(i_copyTable p_t)] : List DTable) := OwnD.of_box (b := b34) (xs := ([(i_copyTable p_t)] : List DTable)) (cells := [[.string (bs ((i_copyTable p_t).Name)), .slice A25 (((i_copyTable p_t).Cols).length) c25, .slice A26 (((i_copyTable p_t).Idxs).length) c26]]) (by rw [List.flatten_singleton]; exact hB38) (by omega) (Nat.lt_succ_self _) (.cons (l := w17.heap.size) (h := b34) (Nat.le_refl _) (by omega) rfl (fun k hk => by cases hk; exact .inr (Nat.le_refl _)) (mkO_Table (l := w17.heap.size) (h := b34) (OwnL.ex good_Str h25 hE39) (OwnL.ex good_Idx h26 hE39) (by omega) (by omega) (by omega)) (.nil (Nat.le_succ _))) (Nat.le_of_ble_eq_true rfl)
 refine sd rfl (yl_assign rfl rfl (SeqR.done (tn (CW.seq (CW.block (CW.loop (fun m97 L98 w99 => ∃ (x92 : Int) (x93 : List DTable) (A94 : Option Addr) (c95 : Nat) (u96 : Nat), ((p_stage - x92).toNat + (x92 - p_stage).toNat) < m97 ∧ w35.heap.size ≤ w99.heap.size ∧ lkp L98 1 = some (.string (bs (p_name))) ∧ lkp L98 2 = some (.int .i64 (p_stage)) ∧ lkp L98 3 = some (.pointer (some ⟨b9, 0, none⟩)) ∧ lkp L98 7 = some (.int .i64 (x92)) ∧ lkp L98 8 = some (.slice A94 x93.length c95) ∧ Box w99 b9 36 [.string (bs (p_t.Name)), .slice A1 p_t.Cols.length c1, .slice A2 p_t.Idxs.length c2] ∧ RdS w99 (Iv 0 w.heap.size) (RF e_Str) 1 A1 p_t.Cols.length c1 p_t.Cols ∧ RdS w99 (Iv 0 w.heap.size) (RF e_Idx) 3 A2 p_t.Idxs.length c2 p_t.Idxs ∧ OwnD w99 w17.heap.size u96 36 3 RO_Table A94 x93.length c95 x93 ∧ Ex w w99 ∧ (w17.heap.size ≤ u96 ∧ u96 ≤ w99.heap.size) ∧ x93.length + 1 * ((p_stage - x92).toNat + (x92 - p_stage).toNat) ≤ 1 + 1 * ((p_stage - (i_Table_idx p_t p_name).Stage).toNat + ((i_Table_idx p_t p_name).Stage - p_stage).toNat) ∧ (∀ y ∈ x93, ok_Table y) ∧ 0 ≤ x92 ∧ x92 ≤ 3 ∧ loopW (B_i_Table_wayTo_0 p_t p_name p_stage) m97 (x92, x93) = loopW (B_i_Table_wayTo_0 p_t p_name p_stage) (((p_stage - (i_Table_idx p_t p_name).Stage).toNat + ((i_Table_idx p_t p_name).Stage - p_stage).toNat) + 1) ((i_Table_idx p_t p_name).Stage, ([(i_copyTable p_t)] : List DTable))) (((p_stage - (i_Table_idx p_t p_name).Stage).toNat + ((i_Table_idx p_t p_name).Stage - p_stage).toNat) + 1) ?_ ?_))))))
 ·exact ⟨(i_Table_idx p_t p_name).Stage, ([(i_copyTable p_t)] : List DTable), (some ⟨b34, 0, none⟩), 1, (b34 + 1), Nat.lt_succ_self _, Nat.le_refl _, rfl, rfl, rfl, rfl, rfl, (Box.ex (Box.ex q21 hE29) hE39), (RdS.ex good_Str (RdS.ex good_Str q22 hE29) hE39), (RdS.ex good_Idx (RdS.ex good_Idx q23 hE29) hE39), hO40, (Ex.trans (Ex.trans (Ex.trans (Ex.trans (Ex.refl w) hE14) hE20) hE29) hE39), (by omega), (by first | (simp; done) | (first | omega | (simp only [List.length_append, List.length_cons, List.length_nil, List.length_set, toS_length]; omega))), ((okL.mk (Nat.le_of_ble_eq_true rfl) (okE.cons ho27 okE.nil))).2, (by first | omega | assumption | (simp only [IntKind.wrap_i64] at *; omega)), (by first | omega | assumption | (simp only [IntKind.wrap_i64] at *; omega)), rfl⟩
 ·rintro m110 L111 w112 ⟨x92, x93, A94, c95, u96, hk113, hsz115, hl116, hl117, hl118, hl119, hl120, hf121, hf122, hf123, hf124, hf125, hu126, hln127, hok128, hv129, hv130, hI114⟩
  refine CW.sub (Sub.cons hl116 (Sub.cons hl117 (Sub.cons hl118 (Sub.cons hl119 (Sub.cons hl120 (Sub.nil _)))))) ?_
  have hf121z := Box.lt hf121
  have hf125z := Ex.size hf125
  refine CW.seq (CW.seq (CW.region (sd rfl (yl_move rfl rfl (sd rfl (yl_move rfl rfl (sd rfl (yl_neq rfl rfl rfl (SeqR.done (tn (bcase (decide (x92 = p_stage)) (fun hb131 => ?_) (fun hb131 => ?_))))))))))))
  ·have hb131p := dec_t hb131
   refine CW.cond_f rfl (not_t hb131) (CW.exit (tx (tx ?_)))
   have hB133 : B_i_Table_wayTo_0 p_t p_name p_stage (x92, x93) = .brk (x92, x93) := by simp only [B_i_Table_wayTo_0, hb131, cond_true, cond_false, loopE_done, loopE_ret]
   have hL132 : loopW (B_i_Table_wayTo_0 p_t p_name p_stage) (((p_stage - (i_Table_idx p_t p_name).Stage).toNat + ((i_Table_idx p_t p_name).Stage - p_stage).toNat) + 1) ((i_Table_idx p_t p_name).Stage, ([(i_copyTable p_t)] : List DTable)) = .done (x92, x93) := hI114.symm.trans (loopW.brk hk113 hB133)
   refine bx (tn (CW.seq (CW.region (sd rfl (yl_move rfl rfl (sd rfl (yl_assign rfl rfl (SeqR.done (tn (CW.ret ?_))))))))))
   refine rr rfl (.cons rfl .nil) ?_
   have hM134 : (i_Table_wayTo p_t p_name p_stage) = (x93) := by simp only [i_Table_wayTo, hb131, hL132, cond_true, cond_false, loopE_done, loopE_ret]
   rw [hM134]
   exact ⟨A94, c95, w17.heap.size, u96, rfl, hf124, (okL.mk (xs := x93) (by first | omega | (simp only [List.length_append, List.length_cons, List.length_nil, List.length_take, List.length_drop, List.length_replicate, List.length_set, toS_length]; omega)) hok128), (by omega), hf125⟩
  ·have hb131p := dec_f hb131
   refine CW.cond_t rfl (not_f hb131) (CW.skip (tn (CW.block (CW.seq (CW.seq (CW.region (sd rfl (yl_move rfl rfl (sd rfl (yl_move rfl rfl ?_))))))))))
   refine sd rfl (yl_lss rfl rfl rfl (SeqR.done (tn (bcase (decide (x92 < p_stage)) (fun hb135 => ?_) (fun hb135 => ?_)))))
   ·have hb135p := dec_t hb135
    refine CW.cond_t rfl hb135 (CW.region (sd rfl (yl_move rfl rfl (sd rfl (yl_add rfl rfl rfl (sd rfl (yl_assign rfl rfl (SeqR.done (tn (CW.region (sd rfl (yl_move rfl rfl ?_))))))))))))
    refine sd rfl (yl_loadN (cs := [.string (bs (p_t.Name)), .slice A1 p_t.Cols.length c1, .slice A2 p_t.Idxs.length c2]) Try.ty36 rfl rfl (hf121.cells (n := 3) rfl) rfl (sd rfl (yl_move rfl rfl (sd rfl (yl_move rfl rfl (sd rfl (yl_call Try.en146 rfl (opvs_cons rfl (opvs_cons rfl (opvs_cons rfl opvs_nil))) (Cal.mono (c_i_Table_withStage p_t p_name (IntKind.wrap .i64 (x92 + 1)) (RdS.up hf122 good_Str) (RdS.up hf123 good_Idx) o3 o4 (by first | omega | assumption | (simp only [IntKind.wrap_i64] at *; omega))) ?_))))))))
    rintro v140 w136 ⟨A137, c137, lo137, hi137, A138, c138, lo138, hi138, rfl, h137, h138, ho139, hrn142, hrn143, hrn144, hE141⟩
    have hE141z := Ex.size hE141
    refine sd rfl (yl_buildSlice (cs := [.string (bs ((i_Table_withStage p_t p_name (IntKind.wrap .i64 (x92 + 1))).Name)), .slice A137 (((i_Table_withStage p_t p_name (IntKind.wrap .i64 (x92 + 1))).Cols).length) c137, .slice A138 (((i_Table_withStage p_t p_name (IntKind.wrap .i64 (x92 + 1))).Idxs).length) c138]) Try.un46 Try.ty36 (by decide) rfl (opvs_cons rfl opvs_nil) (by kernel_rfl) ?_)
    intro b145 w146 hs147 hz148 hB149 hE150
    have hO151 : OwnD w146 w112.heap.size (b145 + 1) 36 3 RO_Table (some ⟨b145, 0, none⟩) 1 1 ([(i_Table_withStage p_t p_name (IntKind.wrap .i64 (x92 + 1)))] : List DTable) := OwnD.of_box (b := b145) (xs := ([(i_Table_withStage p_t p_name (IntKind.wrap .i64 (x92 + 1)))] : List DTable)) (cells := [[.string (bs ((i_Table_withStage p_t p_name (IntKind.wrap .i64 (x92 + 1))).Name)), .slice A137 (((i_Table_withStage p_t p_name (IntKind.wrap .i64 (x92 + 1))).Cols).length) c137, .slice A138 (((i_Table_withStage p_t p_name (IntKind.wrap .i64 (x92 + 1))).Idxs).length) c138]]) (by rw [List.flatten_singleton]; exact hB149) (by omega) (Nat.lt_succ_self _) (.cons (l := w112.heap.size) (h := b145) (Nat.le_refl _) (by omega) rfl (fun k hk => by cases hk; exact .inr (Nat.le_refl _)) (mkO_Table (l := w112.heap.size) (h := b145) (OwnL.ex good_Str h137 hE150) (OwnL.ex good_Idx h138 hE150) (by omega) (by omega) (by omega)) (.nil (Nat.le_succ _))) (Nat.le_of_ble_eq_true rfl)
    refine sd rfl (yl_appendD (xs := x93) (ys := ([(i_Table_withStage p_t p_name (IntKind.wrap .i64 (x92 + 1)))] : List DTable)) goodO_Table Try.un46 Try.ty36 rfl (Nat.le_of_ble_eq_true rfl) rfl rfl rfl (OwnD.ex goodO_Table (OwnD.ex goodO_Table hf124 hE141) hE150) hO151 (by first | omega | (simp only [List.length_append, List.length_cons, List.length_nil, List.length_take, List.length_drop, List.length_replicate, List.length_set, toS_length]; omega)) (by first | omega | (simp only [List.length_append, List.length_cons, List.length_nil, List.length_take, List.length_drop, List.length_replicate, List.length_set, toS_length]; omega)) (by omega) (by omega) (by omega) (by omega) ?_)
    intro A154 c155 w156 row157 hO158 hG159 hrg160
    have hG159z := hG159.size
    refine sd rfl (yl_assign rfl rfl (SeqR.done (bn (tn ?_))))
    have hB161 : B_i_Table_wayTo_0 p_t p_name p_stage (x92, x93) = .cont (IntKind.wrap .i64 (x92 + 1), (x93 ++ ([(i_Table_withStage p_t p_name (IntKind.wrap .i64 (x92 + 1)))] : List DTable))) := by simp only [B_i_Table_wayTo_0, hb131, hb135, cond_true, cond_false, loopE_done, loopE_ret]
    have hmu174 : ((p_stage - IntKind.wrap .i64 (x92 + 1)).toNat + (IntKind.wrap .i64 (x92 + 1) - p_stage).toNat) < ((p_stage - x92).toNat + (x92 - p_stage).toNat) := by first | omega | assumption | (simp only [IntKind.wrap_i64] at *; omega)
    exact ⟨m110 - 1, by omega, IntKind.wrap .i64 (x92 + 1), (x93 ++ ([(i_Table_withStage p_t p_name (IntKind.wrap .i64 (x92 + 1)))] : List DTable)), A154, c155, w156.heap.size, (by omega), (by omega), rfl, rfl, rfl, rfl, rfl, (Box.grown (Box.ex (Box.ex hf121 hE141) hE150) hG159 (fun k hk => by have := hrg160 k hk; omega)), (RdS.grown good_Str (RdS.ex good_Str (RdS.ex good_Str hf122 hE141) hE150) hG159 (fun k hk => by have := hrg160 k hk; simp only [Iv]; omega)), (RdS.grown good_Idx (RdS.ex good_Idx (RdS.ex good_Idx hf123 hE141) hE150) hG159 (fun k hk => by have := hrg160 k hk; simp only [Iv]; omega)), hO158, (Below.grown (Ex.trans (Ex.trans hf125 hE141) hE150) hG159 (by omega) (fun k hk => by have := hrg160 k hk; omega)), (by omega), (by first | omega | (simp only [List.length_append, List.length_cons, List.length_nil, List.length_set, toS_length]; omega)), (okE.append hok128 ((okL.mk (Nat.le_of_ble_eq_true rfl) (okE.cons ho139 okE.nil))).2), (by first | omega | assumption | (simp only [IntKind.wrap_i64] at *; omega)), (by first | omega | assumption | (simp only [IntKind.wrap_i64] at *; omega)), (loopW.cont hk113 hB161).symm.trans hI114⟩
   ·have hb135p := dec_f hb135
    refine CW.cond_f rfl hb135 (CW.region (sd rfl (yl_move rfl rfl (sd rfl (yl_sub rfl rfl rfl (sd rfl (yl_assign rfl rfl (SeqR.done (tn (CW.region (sd rfl (yl_move rfl rfl ?_))))))))))))
    refine sd rfl (yl_loadN (cs := [.string (bs (p_t.Name)), .slice A1 p_t.Cols.length c1, .slice A2 p_t.Idxs.length c2]) Try.ty36 rfl rfl (hf121.cells (n := 3) rfl) rfl (sd rfl (yl_move rfl rfl (sd rfl (yl_move rfl rfl (sd rfl (yl_call Try.en146 rfl (opvs_cons rfl (opvs_cons rfl (opvs_cons rfl opvs_nil))) (Cal.mono (c_i_Table_withStage p_t p_name (IntKind.wrap .i64 (x92 - 1)) (RdS.up hf122 good_Str) (RdS.up hf123 good_Idx) o3 o4 (by first | omega | assumption | (simp only [IntKind.wrap_i64] at *; omega))) ?_))))))))
    rintro v179 w175 ⟨A176, c176, lo176, hi176, A177, c177, lo177, hi177, rfl, h176, h177, ho178, hrn181, hrn182, hrn183, hE180⟩
    have hE180z := Ex.size hE180
    refine sd rfl (yl_buildSlice (cs := [.string (bs ((i_Table_withStage p_t p_name (IntKind.wrap .i64 (x92 - 1))).Name)), .slice A176 (((i_Table_withStage p_t p_name (IntKind.wrap .i64 (x92 - 1))).Cols).length) c176, .slice A177 (((i_Table_withStage p_t p_name (IntKind.wrap .i64 (x92 - 1))).Idxs).length) c177]) Try.un46 Try.ty36 (by decide) rfl (opvs_cons rfl opvs_nil) (by kernel_rfl) ?_)
    intro b184 w185 hs186 hz187 hB188 hE189
    have hO190 : OwnD w185 w112.heap.size (b184 + 1) 36 3 RO_Table (some ⟨b184, 0, none⟩) 1 1 ([(i_Table_withStage p_t p_name (IntKind.wrap .i64 (x92 - 1)))] : List DTable) := OwnD.of_box (b := b184) (xs := ([(i_Table_withStage p_t p_name (IntKind.wrap .i64 (x92 - 1)))] : List DTable)) (cells := [[.string (bs ((i_Table_withStage p_t p_name (IntKind.wrap .i64 (x92 - 1))).Name)), .slice A176 (((i_Table_withStage p_t p_name (IntKind.wrap .i64 (x92 - 1))).Cols).length) c176, .slice A177 (((i_Table_withStage p_t p_name (IntKind.wrap .i64 (x92 - 1))).Idxs).length) c177]]) (by rw [List.flatten_singleton]; exact hB188) (by omega) (Nat.lt_succ_self _) (.cons (l := w112.heap.size) (h := b184) (Nat.le_refl _) (by omega) rfl (fun k hk => by cases hk; exact .inr (Nat.le_refl _)) (mkO_Table (l := w112.heap.size) (h := b184) (OwnL.ex good_Str h176 hE189) (OwnL.ex good_Idx h177 hE189) (by omega) (by omega) (by omega)) (.nil (Nat.le_succ _))) (Nat.le_of_ble_eq_true rfl)
    refine sd rfl (yl_appendD (xs := x93) (ys := ([(i_Table_withStage p_t p_name (IntKind.wrap .i64 (x92 - 1)))] : List DTable)) goodO_Table Try.un46 Try.ty36 rfl (Nat.le_of_ble_eq_true rfl) rfl rfl rfl (OwnD.ex goodO_Table (OwnD.ex goodO_Table hf124 hE180) hE189) hO190 (by first | omega | (simp only [List.length_append, List.length_cons, List.length_nil, List.length_take, List.length_drop, List.length_replicate, List.length_set, toS_length]; omega)) (by first | omega | (simp only [List.length_append, List.length_cons, List.length_nil, List.length_take, List.length_drop, List.length_replicate, List.length_set, toS_length]; omega)) (by omega) (by omega) (by omega) (by omega) ?_)
    intro A193 c194 w195 row196 hO197 hG198 hrg199
    have hG198z := hG198.size
    refine sd rfl (yl_assign rfl rfl (SeqR.done (bn (tn ?_))))
    have hB200 : B_i_Table_wayTo_0 p_t p_name p_stage (x92, x93) = .cont (IntKind.wrap .i64 (x92 - 1), (x93 ++ ([(i_Table_withStage p_t p_name (IntKind.wrap .i64 (x92 - 1)))] : List DTable))) := by simp only [B_i_Table_wayTo_0, hb131, hb135, cond_true, cond_false, loopE_done, loopE_ret]
    have hmu213 : ((p_stage - IntKind.wrap .i64 (x92 - 1)).toNat + (IntKind.wrap .i64 (x92 - 1) - p_stage).toNat) < ((p_stage - x92).toNat + (x92 - p_stage).toNat) := by first | omega | assumption | (simp only [IntKind.wrap_i64] at *; omega)
    exact ⟨m110 - 1, by omega, IntKind.wrap .i64 (x92 - 1), (x93 ++ ([(i_Table_withStage p_t p_name (IntKind.wrap .i64 (x92 - 1)))] : List DTable)), A193, c194, w195.heap.size, (by omega), (by omega), rfl, rfl, rfl, rfl, rfl, (Box.grown (Box.ex (Box.ex hf121 hE180) hE189) hG198 (fun k hk => by have := hrg199 k hk; omega)), (RdS.grown good_Str (RdS.ex good_Str (RdS.ex good_Str hf122 hE180) hE189) hG198 (fun k hk => by have := hrg199 k hk; simp only [Iv]; omega)), (RdS.grown good_Idx (RdS.ex good_Idx (RdS.ex good_Idx hf123 hE180) hE189) hG198 (fun k hk => by have := hrg199 k hk; simp only [Iv]; omega)), hO197, (Below.grown (Ex.trans (Ex.trans hf125 hE180) hE189) hG198 (by omega) (fun k hk => by have := hrg199 k hk; omega)), (by omega), (by first | omega | (simp only [List.length_append, List.length_cons, List.length_nil, List.length_set, toS_length]; omega)), (okE.append hok128 ((okL.mk (Nat.le_of_ble_eq_true rfl) (okE.cons ho178 okE.nil))).2), (by first | omega | assumption | (simp only [IntKind.wrap_i64] at *; omega)), (by first | omega | assumption | (simp only [IntKind.wrap_i64] at *; omega)), (loopW.cont hk113 hB200).symm.trans hI114⟩
set_option maxRecDepth 100000 in
set_option maxHeartbeats 2000000 in
theorem c_i_WayTo {A1 : Option Addr} {c1 : Nat} {A2 : Option Addr} {c2 : Nat} {w : World} (p_t : DTable) (p_name : Str) (p_stage : Int) (h1 : RdS w (Iv 0 w.heap.size) (RF e_Str) 1 A1 p_t.Cols.length c1 p_t.Cols) (h2 : RdS w (Iv 0 w.heap.size) (RF e_Idx) 3 A2 p_t.Idxs.length c2 p_t.Idxs) (o3 : ok_Table p_t) (o4 : okS p_name) : Cal Try.prog 40 #[.agg #[.string (bs (p_t.Name)), .slice A1 p_t.Cols.length c1, .slice A2 p_t.Idxs.length c2], .string (bs (p_name)), .int .i64 (p_stage)] w fun v w' => ∃ A_1 c_1 lo_1 hi_1, v = .tuple #[.slice A_1 (((i_WayTo p_t p_name p_stage).1).length) c_1, .bool ((i_WayTo p_t p_name p_stage).2)] ∧ OwnD w' lo_1 hi_1 36 3 RO_Table A_1 (((i_WayTo p_t p_name p_stage).1).length) c_1 ((i_WayTo p_t p_name p_stage).1) ∧ (okL ok_Table) ((i_WayTo p_t p_name p_stage).1) ∧ (w.heap.size ≤ lo_1 ∧ lo_1 ≤ hi_1 ∧ hi_1 ≤ w'.heap.size) ∧ Ex w w' := by
 have hol5 : p_t.Name.length ≤ 1073741824 := o3.1
 have hol6 := o3.2.1.1
 have hol7 := o3.2.2.1
 have hol8 : p_name.length ≤ 1073741824 := o4
 refine Cal.of (vs := [.agg #[.string (bs (p_t.Name)), .slice A1 p_t.Cols.length c1, .slice A2 p_t.Idxs.length c2], .string (bs (p_name)), .int .i64 (p_stage)]) Try.func40 rfl Try.ntmps40 rfl (CW.seq (CW.region (sd rfl (yl_box (cs := [.string (bs (p_t.Name)), .slice A1 p_t.Cols.length c1, .slice A2 p_t.Idxs.length c2]) rfl rfl rfl ?_))))
 intro b9 w10 hs11 hz12 hB13 hE14
 refine sd rfl (yl_assign rfl rfl (sd rfl (yl_assign rfl rfl (SeqR.done (tn (CW.seq (CW.seq (CW.region (sd rfl (yl_loadN (cs := [.string (bs (p_t.Name)), .slice A1 p_t.Cols.length c1, .slice A2 p_t.Idxs.length c2]) Try.ty36 rfl rfl (hB13.cells (n := 3) rfl) rfl (sd rfl (yl_move rfl rfl ?_))))))))))))
 have q15 := RdS.ex good_Str h1 hE14
 have q16 := RdS.ex good_Idx h2 hE14
 refine sd rfl (yl_call Try.en92 rfl (opvs_cons rfl (opvs_cons rfl opvs_nil)) (Cal.mono (c_i_hasIdx p_t p_name (RdS.up q15 good_Str) (RdS.up q16 good_Idx) o3 o4) ?_))
 rintro v18 w17 ⟨rfl, hE19⟩
 have hE19z := Ex.size hE19
 refine sd rfl (yl_not rfl rfl (sd rfl (yl_move rfl rfl (bcase (i_hasIdx p_t p_name) (fun hb20 => ?_) (fun hb20 => ?_)))))
 ·obtain ⟨hb20p0, hb20p1, hb20p2⟩ := f_i_hasIdx hb20
  refine sy rfl rfl (not_t hb20) (yl_move rfl rfl (sy rfl rfl (not_t hb20) (yl_call Try.en93 rfl (opvs_cons rfl opvs_nil) (Cal.mono (c_i_isStage p_stage) ?_))))
  rintro v22 w21 ⟨rfl, hE23⟩
  have hE23z := Ex.size hE23
  refine sy rfl rfl (not_t hb20) (yl_not rfl rfl (sd rfl (yl_pick_f rfl rfl (not_t hb20) rfl (SeqR.done (tn (bcase (i_isStage p_stage) (fun hb24 => ?_) (fun hb24 => ?_)))))))
  ·have hb24p := f_i_isStage hb24
   refine CW.cond_f rfl (not_t hb24) (CW.skip (tn (CW.seq (CW.region (sd rfl (yl_loadN (cs := [.string (bs (p_t.Name)), .slice A1 p_t.Cols.length c1, .slice A2 p_t.Idxs.length c2]) Try.ty36 rfl rfl ((Box.ex (Box.ex hB13 hE19) hE23).cells (n := 3) rfl) rfl (sd rfl (yl_move rfl rfl (sd rfl (yl_move rfl rfl (sd rfl (yl_call Try.en94 rfl (opvs_cons rfl (opvs_cons rfl (opvs_cons rfl opvs_nil))) (Cal.mono (c_i_Table_wayTo p_t p_name p_stage (RdS.up (RdS.ex good_Str (RdS.ex good_Str q15 hE19) hE23) good_Str) (RdS.up (RdS.ex good_Idx (RdS.ex good_Idx q16 hE19) hE23) good_Idx) o3 o4 (by first | omega | assumption | (simp only [IntKind.wrap_i64] at *; omega)) (by first | omega | assumption | (simp only [IntKind.wrap_i64] at *; omega)) (by first | omega | assumption | (simp only [IntKind.wrap_i64] at *; omega))) ?_)))))))))))))
   rintro v34 w31 ⟨A32, c32, lo32, hi32, rfl, h32, ho33, hrn36, hE35⟩
   have hE35z := Ex.size hE35
   refine sd rfl (yl_assign rfl rfl (sd rfl (yl_assign rfl rfl (SeqR.done (tn (CW.ret (rr rfl (.cons rfl (.cons rfl .nil)) ?_)))))))
   have hM37 : (i_WayTo p_t p_name p_stage) = (((i_Table_wayTo p_t p_name p_stage), true)) := by simp only [i_WayTo, hb20, hb24, cond_true, cond_false, loopE_done, loopE_ret]
   rw [hM37]
   exact ⟨A32, c32, lo32, hi32, rfl, h32, ho33, (by omega), (Ex.trans (Ex.trans (Ex.trans (Ex.trans (Ex.refl w) hE14) hE19) hE23) hE35)⟩
  ·refine CW.cond_t rfl (not_f hb24) (CW.seq (CW.region (sd rfl (yl_assign rfl rfl (sd rfl (yl_assign rfl rfl (SeqR.done (tn (CW.ret (tr ?_))))))))))
   refine rr rfl (.cons rfl (.cons rfl .nil)) ?_
   have hM42 : (i_WayTo p_t p_name p_stage) = ((([] : List DTable), false)) := by simp only [i_WayTo, hb20, hb24, cond_true, cond_false, loopE_done, loopE_ret]
   rw [hM42]
   exact ⟨none, 0, w21.heap.size, w21.heap.size, rfl, (OwnD.nil _ _ _ _ _ _), (okL.nil _), (by omega), (Ex.trans (Ex.trans (Ex.trans (Ex.refl w) hE14) hE19) hE23)⟩
 ·refine sz rfl rfl (not_f hb20) (sz rfl rfl (not_f hb20) (sz rfl rfl (not_f hb20) (sd rfl (yl_pick_t rfl rfl (not_f hb20) rfl (SeqR.done (tn (CW.cond_t rfl rfl (CW.seq (CW.region ?_)))))))))
  refine sd rfl (yl_assign rfl rfl (sd rfl (yl_assign rfl rfl (SeqR.done (tn (CW.ret (tr (rr rfl (.cons rfl (.cons rfl .nil)) ?_))))))))
  have hM46 : (i_WayTo p_t p_name p_stage) = ((([] : List DTable), false)) := by simp only [i_WayTo, hb20, cond_true, cond_false, loopE_done, loopE_ret]
  rw [hM46]
  exact ⟨none, 0, w17.heap.size, w17.heap.size, rfl, (OwnD.nil _ _ _ _ _ _), (okL.nil _), (by omega), (Ex.trans (Ex.trans (Ex.refl w) hE14) hE19)⟩
set_option maxRecDepth 100000 in
set_option maxHeartbeats 2000000 in
theorem c_l_eqTableS {A1 : Option Addr} {c1 : Nat} {A2 : Option Addr} {c2 : Nat} {w : World} (p_a : List DTable) (p_b : List DTable) (h1 : RdS w (Iv 0 w.heap.size) R_Table 3 A1 p_a.length c1 p_a) (h2 : RdS w (Iv 0 w.heap.size) R_Table 3 A2 p_b.length c2 p_b) : Cal Try.prog 41 #[.slice A1 p_a.length c1, .slice A2 p_b.length c2] w fun v w' => v = .bool ((l_eqTableS p_a p_b)) ∧ Ex w w' := by
 refine Cal.of (vs := [.slice A1 p_a.length c1, .slice A2 p_b.length c2]) Try.func41 rfl Try.ntmps41 rfl (CW.seq (CW.region (sd rfl (yl_assign rfl rfl (SeqR.done (tn (CW.seq (CW.seq (CW.region ?_)))))))))
 refine sd rfl (yl_move rfl rfl (sd rfl (yl_len Try.un46 rfl rfl (sd rfl (yl_move rfl rfl (sd rfl (yl_len Try.un46 rfl rfl (sd rfl (yl_neq rfl rfl rfl (SeqR.done (tn (bcase (decide ((p_a.length : Int) = (p_b.length : Int))) (fun hb3 => ?_) (fun hb3 => ?_)))))))))))))
 ·have hb3p := dec_t hb3
  refine CW.cond_f rfl (not_t hb3) (CW.skip (tn (CW.seq (CW.seq (CW.region (sd rfl (yl_assign rfl rfl (SeqR.done (tn ?_)))))))))
  refine CW.block (CW.loop (fun m5 L6 w7 => ∃ (k4 : Nat), m5 = p_a.length - k4 ∧ k4 ≤ p_a.length ∧ w.heap.size ≤ w7.heap.size ∧ lkp L6 0 = some (.slice A1 p_a.length c1) ∧ lkp L6 1 = some (.slice A2 p_b.length c2) ∧ lkp L6 5 = some (.int .i64 ((k4 : Int))) ∧ RdS w7 (Iv 0 w.heap.size) R_Table 3 A1 p_a.length c1 p_a ∧ RdS w7 (Iv 0 w.heap.size) R_Table 3 A2 p_b.length c2 p_b ∧ Ex w w7 ∧ loopM (B_l_eqTableS_0 p_a p_b) (p_a.length - k4) k4 () = loopM (B_l_eqTableS_0 p_a p_b) (p_a.length - 0) 0 ()) (p_a.length - 0) ?_ ?_)
  ·exact ⟨0, rfl, (by omega), Nat.le_refl _, rfl, rfl, rfl, h1, h2, (Ex.refl w), rfl⟩
  ·rintro m8 L9 w10 ⟨k4, rfl, hk11, hsz13, hl14, hl15, hl16, hf17, hf18, hf19, hI12⟩
   refine CW.sub (Sub.cons hl14 (Sub.cons hl15 (Sub.cons hl16 (Sub.nil _)))) ?_
   have hf19z := Ex.size hf19
   have hbg20 := RdS.big hf17
   rcases Nat.lt_or_ge k4 p_a.length with hlt21 | hlt21
   ·refine CW.seq (CW.seq (CW.region (sd rfl (yl_move rfl rfl (sd rfl (yl_move rfl rfl (sd rfl (yl_len Try.un46 rfl rfl (sd rfl (yl_lss rfl rfl rfl (SeqR.done (tn ?_))))))))))))
    refine CW.cond_t rfl (lt_t hlt21) (CW.skip (tn (CW.seq (CW.block (CW.seq ?_)))))
    obtain ⟨eb22, eo22, ec22, eA22, eS22, ebl22, el22, eR22, eC22⟩ := RdS.atD hf17 d_Table (i := k4) (by first | omega | assumption)
    obtain ⟨A23, c23, A24, c24, rfl, h23, h24⟩ := eR22
    have eC22 : Cells w10 eb22 (eo22 + k4 * 3) [.string (bs ((p_a.getD k4 d_Table).Name)), .slice A23 (((p_a.getD k4 d_Table).Cols).length) c23, .slice A24 (((p_a.getD k4 d_Table).Idxs).length) c24] := eC22
    obtain ⟨eb25, eo25, ec25, eA25, eS25, ebl25, el25, eR25, eC25⟩ := RdS.atD hf18 d_Table (i := k4) (by first | omega | assumption)
    obtain ⟨A26, c26, A27, c27, rfl, h26, h27⟩ := eR25
    have eC25 : Cells w10 eb25 (eo25 + k4 * 3) [.string (bs ((p_b.getD k4 d_Table).Name)), .slice A26 (((p_b.getD k4 d_Table).Cols).length) c26, .slice A27 (((p_b.getD k4 d_Table).Idxs).length) c27] := eC25
    refine CW.drawsI 10 (vgetI [DetI (.slice A1 p_a.length c1), DetI (.int .i64 ((k4 : Int))), DetI (.pointer (some ⟨eb22, eo22 + k4 * 3, none⟩)), DetI (.agg #[.string (bs ((p_a.getD k4 d_Table).Name)), .slice A23 (((p_a.getD k4 d_Table).Cols).length) c23, .slice A24 (((p_a.getD k4 d_Table).Idxs).length) c24]), DetI (.slice A2 p_b.length c2), DetI (.int .i64 ((k4 : Int))), DetI (.pointer (some ⟨eb25, eo25 + k4 * 3, none⟩)), DetI (.agg #[.string (bs ((p_b.getD k4 d_Table).Name)), .slice A26 (((p_b.getD k4 d_Table).Cols).length) c26, .slice A27 (((p_b.getD k4 d_Table).Idxs).length) c27]), DetI (.bool ((l_eqTable (p_a.getD k4 d_Table) (p_b.getD k4 d_Table)))), DetI (.bool (!(l_eqTable (p_a.getD k4 d_Table) (p_b.getD k4 d_Table))))]) Try.follows rfl rfl rfl rfl rfl rfl (vgetI_stable ⟨StableI.det _, StableI.det _, StableI.det _, StableI.det _, StableI.det _, StableI.det _, StableI.det _, StableI.det _, StableI.det _, StableI.det _, trivial⟩) ⟨?_, ?_, ?_, ?_, ?_, ?_, ?_, ?_, ?_, ?_, trivial⟩ ?_
    ·exact fun _ _ h => os rfl ((yl_move rfl (h.old 0 _ rfl rfl) kI))
    ·exact fun _ _ h => os rfl ((yl_move rfl (h.old 5 _ rfl rfl) kI))
    ·intro L39 w40 hi41
     have hE42 := hi41.ex
     have hE42z := Ex.size hE42
     exact os rfl ((yl_indexAddrN Try.un46 Try.ty36 rfl (hi41.dt 0 17 rfl rfl rfl) (hi41.dt 1 18 rfl rfl rfl) eA22 (by first | omega | assumption | (simp only [IntKind.wrap_i64] at *; omega)) kI))
    ·exact fun _ _ h => os rfl ((yl_loadN (cs := [.string (bs ((p_a.getD k4 d_Table).Name)), .slice A23 (((p_a.getD k4 d_Table).Cols).length) c23, .slice A24 (((p_a.getD k4 d_Table).Idxs).length) c24]) Try.ty36 rfl (h.dt 2 19 rfl rfl rfl) (Cells.ex eC22 h.ex) rfl kI))
    ·exact fun _ _ h => os rfl ((yl_move rfl (h.old 1 _ rfl rfl) kI))
    ·exact fun _ _ h => os rfl ((yl_move rfl (h.old 5 _ rfl rfl) kI))
    ·intro L61 w62 hi63
     have hE64 := hi63.ex
     have hE64z := Ex.size hE64
     exact os rfl ((yl_indexAddrN Try.un46 Try.ty36 rfl (hi63.dt 4 21 rfl rfl rfl) (hi63.dt 5 22 rfl rfl rfl) eA25 (by first | omega | assumption | (simp only [IntKind.wrap_i64] at *; omega)) kI))
    ·exact fun _ _ h => os rfl ((yl_loadN (cs := [.string (bs ((p_b.getD k4 d_Table).Name)), .slice A26 (((p_b.getD k4 d_Table).Cols).length) c26, .slice A27 (((p_b.getD k4 d_Table).Idxs).length) c27]) Try.ty36 rfl (h.dt 6 23 rfl rfl rfl) (Cells.ex eC25 h.ex) rfl kI))
    ·intro L73 w74 hi75
     have hE76 := hi75.ex
     refine OpR.op' rfl (yl_call Try.en18 rfl (opvs_cons (hi75.dt 3 20 rfl rfl rfl) (opvs_cons (hi75.dt 7 24 rfl rfl rfl) opvs_nil)) (Cal.mono (c_l_eqTable (p_a.getD k4 d_Table) (p_b.getD k4 d_Table) (RdS.up (RdS.ex good_Str h23 hE76) good_Str) (RdS.up (RdS.ex good_Idx h24 hE76) good_Idx) (RdS.up (RdS.ex good_Str h26 hE76) good_Str) (RdS.up (RdS.ex good_Idx h27 hE76) good_Idx)) ?_))
     rintro v84 w83 ⟨rfl, hE85⟩
     exact ⟨rfl, hE85⟩
    ·exact fun _ _ h => os rfl ((yl_not rfl (h.dt 8 25 rfl rfl rfl) kI))
    ·intro fl94 fh95 L91 w92 hp93
     have hE96 := hp93.ex
     have hE96z := Ex.size hE96
     refine SeqR.done (tn (CW.sub (Sub.cons (d := 0) (hp93.old 0 _ rfl rfl) (Sub.cons (d := 1) (hp93.old 1 _ rfl rfl) (Sub.cons (d := 5) (hp93.old 5 _ rfl rfl) (Sub.cons (d := 26) (hp93.nt 9 26 rfl rfl rfl) (Sub.nil _))))) (bcase (l_eqTable (p_a.getD k4 d_Table) (p_b.getD k4 d_Table)) (fun hb101 => ?_) (fun hb101 => ?_))))
     ·refine CW.cond_f rfl (not_t hb101) (CW.skip (bn (tn (CW.region (sd rfl (yl_move rfl rfl (sd rfl (yl_inc rfl rfl rfl (by omega) (sd rfl (yl_assign rfl rfl (SeqR.done ?_)))))))))))
      refine tn ?_
      have hB102 : B_l_eqTableS_0 p_a p_b k4 () = .cont () := by simp only [B_l_eqTableS_0, hb3, hb101, cond_true, cond_false, loopE_done, loopE_ret]
      exact ⟨p_a.length - (k4 + 1), by omega, k4 + 1, rfl, hlt21, (by omega), rfl, rfl, rfl, (RdS.ex good_Table hf17 hE96), (RdS.ex good_Table hf18 hE96), (Ex.trans hf19 hE96), (loopM.cont hlt21 hB102).symm.trans hI12⟩
     ·refine CW.cond_t rfl (not_f hb101) (CW.seq (CW.region (sd rfl (yl_assign rfl rfl (SeqR.done (tn (CW.ret (br (tr ?_)))))))))
      refine tr ?_
      have hB107 : B_l_eqTableS_0 p_a p_b k4 () = .ret false := by simp only [B_l_eqTableS_0, hb3, hb101, cond_true, cond_false, loopE_done, loopE_ret]
      have hL106 : loopM (B_l_eqTableS_0 p_a p_b) (p_a.length - 0) 0 () = .ret false := hI12.symm.trans (loopM.ret hlt21 hB107)
      refine br (tr (rr rfl (.cons rfl .nil) ?_))
      have hM108 : (l_eqTableS p_a p_b) = (false) := by simp only [l_eqTableS, hb3, hb101, hL106, cond_true, cond_false, loopE_done, loopE_ret]
      rw [hM108]
      exact ⟨rfl, (Ex.trans hf19 hE96)⟩
   ·refine CW.seq (CW.seq (CW.region (sd rfl (yl_move rfl rfl (sd rfl (yl_move rfl rfl (sd rfl (yl_len Try.un46 rfl rfl (sd rfl (yl_lss rfl rfl rfl (SeqR.done (tn ?_))))))))))))
    refine CW.cond_f rfl (lt_f hlt21) (CW.exit (tx (tx ?_)))
    have hL110 : loopM (B_l_eqTableS_0 p_a p_b) (p_a.length - 0) 0 () = .done () := hI12.symm.trans (loopM.stop hlt21)
    refine bx (tn (CW.seq (CW.region (sd rfl (yl_assign rfl rfl (SeqR.done (tn (CW.ret (rr rfl (.cons rfl .nil) ?_)))))))))
    have hM111 : (l_eqTableS p_a p_b) = (true) := by simp only [l_eqTableS, hb3, hL110, cond_true, cond_false, loopE_done, loopE_ret]
    rw [hM111]
    exact ⟨rfl, hf19⟩
 ·have hb3p := dec_f hb3
  refine CW.cond_t rfl (not_f hb3) (CW.seq (CW.region (sd rfl (yl_assign rfl rfl (SeqR.done (tn (CW.ret (tr (rr rfl (.cons rfl .nil) ?_)))))))))
  have hM112 : (l_eqTableS p_a p_b) = (false) := by simp only [l_eqTableS, hb3, cond_true, cond_false, loopE_done, loopE_ret]
  rw [hM112]
  exact ⟨rfl, (Ex.refl w)⟩
set_option maxRecDepth 100000 in
set_option maxHeartbeats 2000000 in
theorem c_l_markTableS {A1 : Option Addr} {c1 : Nat} {lo1 hi1 : Nat} {w : World} (p_a : List DTable) (p_k : Int) (h1 : OwnD w lo1 hi1 36 3 RO_Table A1 p_a.length c1 p_a) (hrn2 : (0 ≤ lo1 ∧ lo1 ≤ hi1 ∧ hi1 ≤ w.heap.size)) (pre0 : p_k ≤ 9223372036854775807) : Cal Try.prog 42 #[.slice A1 p_a.length c1, .int .i64 (p_k)] w fun v w' => v = .int .i64 ((l_markTableS p_a p_k).1) ∧ OwnD w' lo1 hi1 36 3 RO_Table A1 p_a.length c1 ((l_markTableS p_a p_k).2) ∧ Mut [(lo1, hi1)] w w' := by
 refine Cal.of (vs := [.slice A1 p_a.length c1, .int .i64 (p_k)]) Try.func42 rfl Try.ntmps42 rfl (CW.seq (CW.region (sd rfl (yl_assign rfl rfl (SeqR.done (tn (CW.seq (CW.seq (CW.region ?_)))))))))
 refine sd rfl (yl_assign rfl rfl (SeqR.done (tn (CW.block (CW.loop (fun m29 L30 w31 => ∃ (k3 : Nat) (x27 : Int) (x28 : List DTable), m29 = p_a.length - k3 ∧ k3 ≤ p_a.length ∧ w.heap.size ≤ w31.heap.size ∧ lkp L30 0 = some (.slice A1 p_a.length c1) ∧ lkp L30 1 = some (.int .i64 (x27)) ∧ lkp L30 5 = some (.int .i64 ((k3 : Int))) ∧ OwnD w31 lo1 hi1 36 3 RO_Table A1 p_a.length c1 x28 ∧ Mut [(lo1, hi1)] w w31 ∧ x27 ≤ 9223372036854775807 ∧ loopM (B_l_markTableS_0 p_a p_k) (p_a.length - k3) k3 (x27, x28) = loopM (B_l_markTableS_0 p_a p_k) (p_a.length - 0) 0 (p_k, p_a)) (p_a.length - 0) ?_ ?_)))))
 ·exact ⟨0, p_k, p_a, rfl, (by omega), Nat.le_refl _, rfl, rfl, rfl, h1, (Mut.refl (l := [(lo1, hi1)]) w), (by first | omega | assumption | (simp only [IntKind.wrap_i64] at *; omega)), rfl⟩
 ·rintro m32 L33 w34 ⟨k3, x27, x28, rfl, hk35, hsz37, hl38, hl39, hl40, hf41, hf42, hv43, hI36⟩
  refine CW.sub (Sub.cons hl38 (Sub.cons hl39 (Sub.cons hl40 (Sub.nil _)))) ?_
  have hf42z := Mut.size hf42
  have hbg44 := RdS.big (OwnL.rd good_Table (OwnD.own goodO_Table good_Table hf41))
  rcases Nat.lt_or_ge k3 p_a.length with hlt46 | hlt46
  ·refine CW.seq (CW.seq (CW.region (sd rfl (yl_move rfl rfl (sd rfl (yl_move rfl rfl (sd rfl (yl_len Try.un46 rfl rfl (sd rfl (yl_lss rfl rfl rfl (SeqR.done (tn ?_))))))))))))
   refine CW.cond_t rfl (lt_t hlt46) (CW.skip (tn (CW.seq (CW.block (CW.seq (CW.region (sd rfl (yl_move rfl rfl (sd rfl (yl_move rfl rfl ?_))))))))))
   refine sd rfl (yl_move rfl rfl (sd rfl (yl_call Try.en83 rfl (opvs_cons rfl opvs_nil) (Cal.mono (c_l_markText x27 (by first | omega | assumption | (simp only [IntKind.wrap_i64] at *; omega))) ?_))))
   rintro v48 w47 ⟨rfl, hE49⟩
   have hE49z := Ex.size hE49
   obtain ⟨dg51, dl51, dh51, _, dA51, dr51, ds51, dx51, dlh51, ⟨A52, c52, lo52, hi52, A53, c53, lo53, hi53, rfl, h52, h53, hrn54, hrn55, hrn56⟩, dR51⟩ := OwnD.open d_Table (i := k3) (OwnD.ex goodO_Table hf41 hE49) (by first | omega | assumption | (simp only [IntKind.wrap_i64] at *; omega))
   refine sd rfl (yl_indexAddrN Try.un46 Try.ty36 rfl rfl rfl dA51 (by first | omega | assumption | (simp only [IntKind.wrap_i64] at *; omega)) (sd rfl (yl_fieldAddr Try.fd36_0 rfl rfl (SeqR.u rfl rfl (yl_storeR (vs := [.string (bs ((l_markText x27)))]) (d := 0) Try.ty9 rfl dR51 dA51 goodO_Table rfl rfl rfl rfl rfl (Nat.le_of_ble_eq_true rfl) ?_)))))
   intro w57 hB58 hO59
   have hO59z := hO59.size
   refine SeqR.done (tn (CW.seq (CW.region (sd rfl (yl_move rfl rfl (sd rfl (yl_add rfl rfl rfl (sd rfl (yl_assign rfl rfl (SeqR.done (tn ?_)))))))))))
   refine CW.seq (CW.region (sd rfl (yl_move rfl rfl (sd rfl (yl_move rfl rfl (sd rfl (yl_indexAddrN Try.un46 Try.ty36 rfl rfl rfl dA51 (by first | omega | assumption | (simp only [IntKind.wrap_i64] at *; omega)) (sd rfl (yl_fieldAddr Try.fd36_1 rfl rfl (sd rfl (yl_load1 Try.ty22 rfl rfl ((OwnR.cells' dA51 hB58) 1 _ rfl) (sd rfl (yl_move rfl rfl (sd rfl (yl_call Try.en81 rfl (opvs_cons rfl (opvs_cons rfl opvs_nil)) (Cal.mono (c_l_markStringS ((x28.getD k3 d_Table).Cols) (IntKind.wrap .i64 (x27 + 1)) (OwnL.only good_Str h52 hO59 (by omega)) (by omega) (by first | omega | assumption | (simp only [IntKind.wrap_i64] at *; omega))) ?_))))))))))))))))
   rintro v62 w61 ⟨rfl, h64, hm63⟩
   have hm63z := Mut.size hm63
   have hrf65 := rf_markStringS ((x28.getD k3 d_Table).Cols) (IntKind.wrap .i64 (x27 + 1)) (by first | omega | assumption | (simp only [IntKind.wrap_i64] at *; omega))
   refine sd rfl (yl_assign rfl rfl (SeqR.done (tn (CW.region (sd rfl (yl_move rfl rfl (sd rfl (yl_move rfl rfl (sd rfl (yl_indexAddrN Try.un46 Try.ty36 rfl rfl rfl dA51 (by first | omega | assumption | (simp only [IntKind.wrap_i64] at *; omega)) (sd rfl (yl_fieldAddr Try.fd36_2 rfl rfl ?_))))))))))))
   have q66 := OwnR.mut goodO_Table hB58 hm63 (fun k hk => by simp only [InR, or_false] at hk; omega)
   refine sd rfl (yl_load1 Try.ty34 rfl rfl ((OwnR.cells' dA51 q66) 2 _ rfl) (sd rfl (yl_move rfl rfl (sd rfl (yl_call Try.en82 rfl (opvs_cons rfl (opvs_cons rfl opvs_nil)) (Cal.mono (c_l_markIdxS ((x28.getD k3 d_Table).Idxs) ((l_markStringS ((x28.getD k3 d_Table).Cols) (IntKind.wrap .i64 (x27 + 1))).1) (OwnL.mut good_Idx (OwnL.only good_Idx h53 hO59 (by omega)) hm63 (fun k hk => by simp only [InR, or_false] at hk; omega)) (by omega) (by first | omega | assumption | (simp only [IntKind.wrap_i64] at *; omega))) ?_))))))
   rintro v70 w69 ⟨rfl, h72, hm71⟩
   have hm71z := Mut.size hm71
   have hrf73 := rf_markIdxS ((x28.getD k3 d_Table).Idxs) ((l_markStringS ((x28.getD k3 d_Table).Cols) (IntKind.wrap .i64 (x27 + 1))).1) (by first | omega | assumption | (simp only [IntKind.wrap_i64] at *; omega))
   refine sd rfl (yl_assign rfl rfl (SeqR.done (bn (tn (CW.region (sd rfl (yl_move rfl rfl (sd rfl (yl_inc rfl rfl rfl (by omega) (sd rfl (yl_assign rfl rfl (SeqR.done ?_))))))))))))
   refine tn ?_
   have hB74 : B_l_markTableS_0 p_a p_k k3 (x27, x28) = .cont ((l_markIdxS ((x28.getD k3 d_Table).Idxs) ((l_markStringS ((x28.getD k3 d_Table).Cols) (IntKind.wrap .i64 (x27 + 1))).1)).1, (x28.set k3 (⟨(l_markText x27), (l_markStringS ((x28.getD k3 d_Table).Cols) (IntKind.wrap .i64 (x27 + 1))).2, (l_markIdxS ((x28.getD k3 d_Table).Idxs) ((l_markStringS ((x28.getD k3 d_Table).Cols) (IntKind.wrap .i64 (x27 + 1))).1)).2⟩ : DTable))) := by simp only [B_l_markTableS_0, cond_true, cond_false, loopE_done, loopE_ret]
   exact ⟨p_a.length - (k3 + 1), by omega, k3 + 1, (l_markIdxS ((x28.getD k3 d_Table).Idxs) ((l_markStringS ((x28.getD k3 d_Table).Cols) (IntKind.wrap .i64 (x27 + 1))).1)).1, (x28.set k3 (⟨(l_markText x27), (l_markStringS ((x28.getD k3 d_Table).Cols) (IntKind.wrap .i64 (x27 + 1))).2, (l_markIdxS ((x28.getD k3 d_Table).Idxs) ((l_markStringS ((x28.getD k3 d_Table).Cols) (IntKind.wrap .i64 (x27 + 1))).1)).2⟩ : DTable)), rfl, hlt46, (by omega), rfl, rfl, rfl, (OwnR.close (OwnR.mut goodO_Table q66 hm71 (fun k hk => by simp only [InR, or_false] at hk; omega)) (mkO_Table (l := dl51) (h := dh51) (OwnL.mut good_Str h64 hm71 (fun k hk => by simp only [InR, or_false] at hk; omega)) h72 (by omega) (by omega) (by omega))), (Mut.mut (Mut.mut (Mut.only (Mut.ex hf42 hE49) hO59 (by simp only [InR, or_false]; omega)) hm63 (fun k hk => by simp only [InR, or_false] at hk ⊢; omega)) hm71 (fun k hk => by simp only [InR, or_false] at hk ⊢; omega)), (by first | omega | assumption | (simp only [IntKind.wrap_i64] at *; omega)), (loopM.cont hlt46 hB74).symm.trans hI36⟩
  ·refine CW.seq (CW.seq (CW.region (sd rfl (yl_move rfl rfl (sd rfl (yl_move rfl rfl (sd rfl (yl_len Try.un46 rfl rfl (sd rfl (yl_lss rfl rfl rfl (SeqR.done (tn ?_))))))))))))
   refine CW.cond_f rfl (lt_f hlt46) (CW.exit (tx (tx ?_)))
   have hL81 : loopM (B_l_markTableS_0 p_a p_k) (p_a.length - 0) 0 (p_k, p_a) = .done (x27, x28) := hI36.symm.trans (loopM.stop hlt46)
   refine bx (tn (CW.seq (CW.region (sd rfl (yl_move rfl rfl (sd rfl (yl_assign rfl rfl (SeqR.done (tn (CW.ret ?_))))))))))
   refine rr rfl (.cons rfl .nil) ?_
   have hM82 : (l_markTableS p_a p_k) = ((x27, x28)) := by simp only [l_markTableS, hL81, cond_true, cond_false, loopE_done, loopE_ret]
   rw [hM82]
   exact ⟨rfl, hf41, hf42⟩
set_option maxRecDepth 100000 in
set_option maxHeartbeats 2000000 in
theorem c_l_heldStringS {A1 : Option Addr} {c1 : Nat} {w : World} (p_a : List Str) (p_k : Int) (h1 : RdS w (Iv 0 w.heap.size) (RF e_Str) 1 A1 p_a.length c1 p_a) (pre0 : p_k ≤ 9223372036854775807) : Cal Try.prog 95 #[.slice A1 p_a.length c1, .int .i64 (p_k)] w fun v w' => v = .int .i64 ((l_heldStringS p_a p_k)) ∧ Ex w w' := by
 refine Cal.of (vs := [.slice A1 p_a.length c1, .int .i64 (p_k)]) Try.func95 rfl Try.ntmps95 rfl (CW.seq (CW.region (sd rfl (yl_assign rfl rfl (SeqR.done (tn (CW.seq (CW.seq (CW.region ?_)))))))))
 refine sd rfl (yl_assign rfl rfl (SeqR.done (tn (CW.block (CW.loop (fun m4 L5 w6 => ∃ (k2 : Nat) (x3 : Int), m4 = p_a.length - k2 ∧ k2 ≤ p_a.length ∧ w.heap.size ≤ w6.heap.size ∧ lkp L5 0 = some (.slice A1 p_a.length c1) ∧ lkp L5 1 = some (.int .i64 (x3)) ∧ lkp L5 5 = some (.int .i64 ((k2 : Int))) ∧ RdS w6 (Iv 0 w.heap.size) (RF e_Str) 1 A1 p_a.length c1 p_a ∧ Ex w w6 ∧ x3 ≤ 9223372036854775807 ∧ loopM (B_l_heldStringS_0 p_a p_k) (p_a.length - k2) k2 (x3) = loopM (B_l_heldStringS_0 p_a p_k) (p_a.length - 0) 0 (p_k)) (p_a.length - 0) ?_ ?_)))))
 ·exact ⟨0, p_k, rfl, (by omega), Nat.le_refl _, rfl, rfl, rfl, h1, (Ex.refl w), (by first | omega | assumption | (simp only [IntKind.wrap_i64] at *; omega)), rfl⟩
 ·rintro m7 L8 w9 ⟨k2, x3, rfl, hk10, hsz12, hl13, hl14, hl15, hf16, hf17, hv18, hI11⟩
  refine CW.sub (Sub.cons hl13 (Sub.cons hl14 (Sub.cons hl15 (Sub.nil _)))) ?_
  have hf17z := Ex.size hf17
  have hbg19 := RdS.big hf16
  rcases Nat.lt_or_ge k2 p_a.length with hlt20 | hlt20
  ·refine CW.seq (CW.seq (CW.region (sd rfl (yl_move rfl rfl (sd rfl (yl_move rfl rfl (sd rfl (yl_len Try.un22 rfl rfl (sd rfl (yl_lss rfl rfl rfl (SeqR.done (tn ?_))))))))))))
   refine CW.cond_t rfl (lt_t hlt20) (CW.skip (tn (CW.seq (CW.block (CW.seq (CW.seq ?_))))))
   obtain ⟨eb21, eo21, ec21, eA21, eS21, ebl21, el21, eR21, eC21⟩ := RdS.atD hf16 d_Str (i := k2) (by first | omega | assumption)
   obtain rfl := eR21
   have eC21 : Cells w9 eb21 (eo21 + k2 * 1) [.string (bs ((p_a.getD k2 d_Str)))] := eC21
   refine CW.drawsI 7 (vgetI [DetI (.slice A1 p_a.length c1), DetI (.int .i64 ((k2 : Int))), DetI (.pointer (some ⟨eb21, eo21 + k2 * 1, none⟩)), DetI (.string (bs ((p_a.getD k2 d_Str)))), DetI (.int .i64 (x3)), DetI (.string (bs ((l_markText x3)))), DetI (.bool (!((p_a.getD k2 d_Str) == (l_markText x3))))]) Try.follows rfl rfl rfl rfl rfl rfl (vgetI_stable ⟨StableI.det _, StableI.det _, StableI.det _, StableI.det _, StableI.det _, StableI.det _, StableI.det _, trivial⟩) ⟨?_, ?_, ?_, ?_, ?_, ?_, ?_, trivial⟩ ?_
   ·exact fun _ _ h => os rfl ((yl_move rfl (h.old 0 _ rfl rfl) kI))
   ·exact fun _ _ h => os rfl ((yl_move rfl (h.old 5 _ rfl rfl) kI))
   ·intro L33 w34 hi35
    have hE36 := hi35.ex
    have hE36z := Ex.size hE36
    exact os rfl ((yl_indexAddrN Try.un22 Try.ty9 rfl (hi35.dt 0 12 rfl rfl rfl) (hi35.dt 1 13 rfl rfl rfl) eA21 (by first | omega | assumption | (simp only [IntKind.wrap_i64] at *; omega)) kI))
   ·exact fun _ _ h => os rfl ((yl_load1 Try.ty9 rfl (h.dt 2 14 rfl rfl rfl) ((Cells.ex eC21 h.ex) 0 _ rfl) kI))
   ·exact fun _ _ h => os rfl ((yl_move rfl (h.old 1 _ rfl rfl) kI))
   ·intro L50 w51 hi52
    have hE53 := hi52.ex
    have hE53z := Ex.size hE53
    refine OpR.op' rfl (yl_call Try.en83 rfl (opvs_cons (hi52.dt 4 16 rfl rfl rfl) opvs_nil) (Cal.mono (c_l_markText x3 (by first | omega | assumption | (simp only [IntKind.wrap_i64] at *; omega))) ?_))
    rintro v56 w55 ⟨rfl, hE57⟩
    exact ⟨rfl, hE57⟩
   ·exact fun _ _ h => os rfl ((yl_sneq (a := (p_a.getD k2 d_Str)) (b := (l_markText x3)) rfl (h.dt 3 15 rfl rfl rfl) (h.dt 5 17 rfl rfl rfl) kI))
   ·intro fl67 fh68 L64 w65 hp66
    have hE69 := hp66.ex
    have hE69z := Ex.size hE69
    refine SeqR.done (tn (CW.sub (Sub.cons (d := 0) (hp66.old 0 _ rfl rfl) (Sub.cons (d := 1) (hp66.old 1 _ rfl rfl) (Sub.cons (d := 5) (hp66.old 5 _ rfl rfl) (Sub.cons (d := 18) (hp66.nt 6 18 rfl rfl rfl) (Sub.nil _))))) (bcase ((p_a.getD k2 d_Str) == (l_markText x3)) (fun hb74 => ?_) (fun hb74 => ?_))))
    ·refine CW.cond_f rfl (not_t hb74) (CW.skip (tn (CW.region (sd rfl (yl_move rfl rfl (sd rfl (yl_add rfl rfl rfl (sd rfl (yl_assign rfl rfl (SeqR.done (bn ?_)))))))))))
     refine tn (CW.region (sd rfl (yl_move rfl rfl (sd rfl (yl_inc rfl rfl rfl (by omega) (sd rfl (yl_assign rfl rfl (SeqR.done (tn ?_)))))))))
     have hB75 : B_l_heldStringS_0 p_a p_k k2 (x3) = .cont (IntKind.wrap .i64 (x3 + 1)) := by simp only [B_l_heldStringS_0, hb74, cond_true, cond_false, loopE_done, loopE_ret]
     exact ⟨p_a.length - (k2 + 1), by omega, k2 + 1, IntKind.wrap .i64 (x3 + 1), rfl, hlt20, (by omega), rfl, rfl, rfl, (RdS.ex good_Str hf16 hE69), (Ex.trans hf17 hE69), (by first | omega | assumption | (simp only [IntKind.wrap_i64] at *; omega)), (loopM.cont hlt20 hB75).symm.trans hI11⟩
    ·refine CW.cond_t rfl (not_f hb74) (CW.seq (CW.region (sd rfl (yl_assign rfl rfl (SeqR.done (tn (CW.ret (tr (br ?_)))))))))
     refine tr (tr ?_)
     have hB79 : B_l_heldStringS_0 p_a p_k k2 (x3) = .ret (-1) := by simp only [B_l_heldStringS_0, hb74, cond_true, cond_false, loopE_done, loopE_ret]
     have hL78 : loopM (B_l_heldStringS_0 p_a p_k) (p_a.length - 0) 0 (p_k) = .ret (-1) := hI11.symm.trans (loopM.ret hlt20 hB79)
     refine br (tr (rr rfl (.cons rfl .nil) ?_))
     have hM80 : (l_heldStringS p_a p_k) = (-1) := by simp only [l_heldStringS, hb74, hL78, cond_true, cond_false, loopE_done, loopE_ret]
     rw [hM80]
     exact ⟨rfl, (Ex.trans hf17 hE69)⟩
  ·refine CW.seq (CW.seq (CW.region (sd rfl (yl_move rfl rfl (sd rfl (yl_move rfl rfl (sd rfl (yl_len Try.un22 rfl rfl (sd rfl (yl_lss rfl rfl rfl (SeqR.done (tn ?_))))))))))))
   refine CW.cond_f rfl (lt_f hlt20) (CW.exit (tx (tx ?_)))
   have hL82 : loopM (B_l_heldStringS_0 p_a p_k) (p_a.length - 0) 0 (p_k) = .done (x3) := hI11.symm.trans (loopM.stop hlt20)
   refine bx (tn (CW.seq (CW.region (sd rfl (yl_move rfl rfl (sd rfl (yl_assign rfl rfl (SeqR.done (tn (CW.ret ?_))))))))))
   refine rr rfl (.cons rfl .nil) ?_
   have hM83 : (l_heldStringS p_a p_k) = (x3) := by simp only [l_heldStringS, hL82, cond_true, cond_false, loopE_done, loopE_ret]
   rw [hM83]
   exact ⟨rfl, hf17⟩
set_option maxRecDepth 100000 in
set_option maxHeartbeats 2000000 in
theorem c_l_heldIdxS {A1 : Option Addr} {c1 : Nat} {w : World} (p_a : List DIdx) (p_k : Int) (h1 : RdS w (Iv 0 w.heap.size) (RF e_Idx) 3 A1 p_a.length c1 p_a) (pre0 : p_k ≤ 9223372036854775807) : Cal Try.prog 96 #[.slice A1 p_a.length c1, .int .i64 (p_k)] w fun v w' => v = .int .i64 ((l_heldIdxS p_a p_k)) ∧ Ex w w' := by
 refine Cal.of (vs := [.slice A1 p_a.length c1, .int .i64 (p_k)]) Try.func96 rfl Try.ntmps96 rfl (CW.seq (CW.region (sd rfl (yl_assign rfl rfl (SeqR.done (tn (CW.seq (CW.seq (CW.region ?_)))))))))
 refine sd rfl (yl_assign rfl rfl (SeqR.done (tn (CW.block (CW.loop (fun m4 L5 w6 => ∃ (k2 : Nat) (x3 : Int), m4 = p_a.length - k2 ∧ k2 ≤ p_a.length ∧ w.heap.size ≤ w6.heap.size ∧ lkp L5 0 = some (.slice A1 p_a.length c1) ∧ lkp L5 1 = some (.int .i64 (x3)) ∧ lkp L5 5 = some (.int .i64 ((k2 : Int))) ∧ RdS w6 (Iv 0 w.heap.size) (RF e_Idx) 3 A1 p_a.length c1 p_a ∧ Ex w w6 ∧ x3 ≤ 9223372036854775807 ∧ loopM (B_l_heldIdxS_0 p_a p_k) (p_a.length - k2) k2 (x3) = loopM (B_l_heldIdxS_0 p_a p_k) (p_a.length - 0) 0 (p_k)) (p_a.length - 0) ?_ ?_)))))
 ·exact ⟨0, p_k, rfl, (by omega), Nat.le_refl _, rfl, rfl, rfl, h1, (Ex.refl w), (by first | omega | assumption | (simp only [IntKind.wrap_i64] at *; omega)), rfl⟩
 ·rintro m7 L8 w9 ⟨k2, x3, rfl, hk10, hsz12, hl13, hl14, hl15, hf16, hf17, hv18, hI11⟩
  refine CW.sub (Sub.cons hl13 (Sub.cons hl14 (Sub.cons hl15 (Sub.nil _)))) ?_
  have hf17z := Ex.size hf17
  have hbg19 := RdS.big hf16
  rcases Nat.lt_or_ge k2 p_a.length with hlt20 | hlt20
  ·refine CW.seq (CW.seq (CW.region (sd rfl (yl_move rfl rfl (sd rfl (yl_move rfl rfl (sd rfl (yl_len Try.un34 rfl rfl (sd rfl (yl_lss rfl rfl rfl (SeqR.done (tn ?_))))))))))))
   refine CW.cond_t rfl (lt_t hlt20) (CW.skip (tn (CW.seq (CW.block (CW.seq (CW.seq ?_))))))
   obtain ⟨eb21, eo21, ec21, eA21, eS21, ebl21, el21, eR21, eC21⟩ := RdS.atD hf16 d_Idx (i := k2) (by first | omega | assumption)
   obtain rfl := eR21
   have eC21 : Cells w9 eb21 (eo21 + k2 * 3) [.string (bs ((p_a.getD k2 d_Idx).Name)), .int .i64 ((p_a.getD k2 d_Idx).Col), .int .i64 ((p_a.getD k2 d_Idx).Stage)] := eC21
   refine CW.drawsI 8 (vgetI [DetI (.slice A1 p_a.length c1), DetI (.int .i64 ((k2 : Int))), DetI (.pointer (some ⟨eb21, eo21 + k2 * 3, none⟩)), DetI (.pointer (some ⟨eb21, eo21 + k2 * 3 + 0, none⟩)), DetI (.string (bs ((p_a.getD k2 d_Idx).Name))), DetI (.int .i64 (x3)), DetI (.string (bs ((l_markText x3)))), DetI (.bool (!(((p_a.getD k2 d_Idx).Name) == (l_markText x3))))]) Try.follows rfl rfl rfl rfl rfl rfl (vgetI_stable ⟨StableI.det _, StableI.det _, StableI.det _, StableI.det _, StableI.det _, StableI.det _, StableI.det _, StableI.det _, trivial⟩) ⟨?_, ?_, ?_, ?_, ?_, ?_, ?_, ?_, trivial⟩ ?_
   ·exact fun _ _ h => os rfl ((yl_move rfl (h.old 0 _ rfl rfl) kI))
   ·exact fun _ _ h => os rfl ((yl_move rfl (h.old 5 _ rfl rfl) kI))
   ·intro L33 w34 hi35
    have hE36 := hi35.ex
    have hE36z := Ex.size hE36
    exact os rfl ((yl_indexAddrN Try.un34 Try.ty171 rfl (hi35.dt 0 12 rfl rfl rfl) (hi35.dt 1 13 rfl rfl rfl) eA21 (by first | omega | assumption | (simp only [IntKind.wrap_i64] at *; omega)) kI))
   ·exact fun _ _ h => os rfl ((yl_fieldAddr Try.fd171_0 rfl (h.dt 2 14 rfl rfl rfl) kI))
   ·exact fun _ _ h => os rfl ((yl_load1 Try.ty9 rfl (h.dt 3 15 rfl rfl rfl) ((Cells.ex eC21 h.ex) 0 _ rfl) kI))
   ·exact fun _ _ h => os rfl ((yl_move rfl (h.old 1 _ rfl rfl) kI))
   ·intro L55 w56 hi57
    have hE58 := hi57.ex
    have hE58z := Ex.size hE58
    refine OpR.op' rfl (yl_call Try.en83 rfl (opvs_cons (hi57.dt 5 17 rfl rfl rfl) opvs_nil) (Cal.mono (c_l_markText x3 (by first | omega | assumption | (simp only [IntKind.wrap_i64] at *; omega))) ?_))
    rintro v61 w60 ⟨rfl, hE62⟩
    exact ⟨rfl, hE62⟩
   ·exact fun _ _ h => os rfl ((yl_sneq (a := ((p_a.getD k2 d_Idx).Name)) (b := (l_markText x3)) rfl (h.dt 4 16 rfl rfl rfl) (h.dt 6 18 rfl rfl rfl) kI))
   ·intro fl72 fh73 L69 w70 hp71
    have hE74 := hp71.ex
    have hE74z := Ex.size hE74
    refine SeqR.done (tn (CW.sub (Sub.cons (d := 0) (hp71.old 0 _ rfl rfl) (Sub.cons (d := 1) (hp71.old 1 _ rfl rfl) (Sub.cons (d := 5) (hp71.old 5 _ rfl rfl) (Sub.cons (d := 19) (hp71.nt 7 19 rfl rfl rfl) (Sub.nil _))))) (bcase (((p_a.getD k2 d_Idx).Name) == (l_markText x3)) (fun hb79 => ?_) (fun hb79 => ?_))))
    ·refine CW.cond_f rfl (not_t hb79) (CW.skip (tn (CW.seq (CW.region (sd rfl (yl_move rfl rfl (sd rfl (yl_add rfl rfl rfl (sd rfl (yl_assign rfl rfl (SeqR.done ?_)))))))))))
     refine tn (CW.seq (CW.seq (CW.region (sd rfl (yl_move rfl rfl (sd rfl (yl_move rfl rfl (sd rfl (yl_indexAddrN Try.un34 Try.ty171 rfl rfl rfl eA21 (by first | omega | assumption | (simp only [IntKind.wrap_i64] at *; omega)) (sd rfl (yl_fieldAddr Try.fd171_1 rfl rfl ?_)))))))))))
     have q80 := Cells.ex eC21 hE74
     refine sd rfl (yl_load1 Try.ty3 rfl rfl (q80 1 _ rfl) (sd rfl (yl_move rfl rfl (sd rfl (yl_neq rfl rfl rfl (SeqR.done (tn (bcase (decide (((p_a.getD k2 d_Idx).Col) = (IntKind.wrap .i64 (x3 + 1)))) (fun hb81 => ?_) (fun hb81 => ?_)))))))))
     ·have hb81p := dec_t hb81
      refine CW.cond_f rfl (not_t hb81) (CW.skip (tn (CW.seq (CW.region (sd rfl (yl_move rfl rfl (sd rfl (yl_add rfl rfl rfl (sd rfl (yl_assign rfl rfl (SeqR.done ?_)))))))))))
      refine tn (CW.seq (CW.seq (CW.region (sd rfl (yl_move rfl rfl (sd rfl (yl_move rfl rfl (sd rfl (yl_indexAddrN Try.un34 Try.ty171 rfl rfl rfl eA21 (by first | omega | assumption | (simp only [IntKind.wrap_i64] at *; omega)) (sd rfl (yl_fieldAddr Try.fd171_2 rfl rfl (sd rfl (yl_load1 Try.ty3 rfl rfl (q80 2 _ rfl) ?_)))))))))))))
      refine sd rfl (yl_move rfl rfl (sd rfl (yl_neq rfl rfl rfl (SeqR.done (tn (bcase (decide (((p_a.getD k2 d_Idx).Stage) = (IntKind.wrap .i64 ((IntKind.wrap .i64 (x3 + 1)) + 1)))) (fun hb82 => ?_) (fun hb82 => ?_)))))))
      ·have hb82p := dec_t hb82
       refine CW.cond_f rfl (not_t hb82) (CW.skip (tn (CW.region (sd rfl (yl_move rfl rfl (sd rfl (yl_add rfl rfl rfl (sd rfl (yl_assign rfl rfl (SeqR.done (bn ?_)))))))))))
       refine tn (CW.region (sd rfl (yl_move rfl rfl (sd rfl (yl_inc rfl rfl rfl (by omega) (sd rfl (yl_assign rfl rfl (SeqR.done (tn ?_)))))))))
       have hB83 : B_l_heldIdxS_0 p_a p_k k2 (x3) = .cont (IntKind.wrap .i64 ((IntKind.wrap .i64 ((IntKind.wrap .i64 (x3 + 1)) + 1)) + 1)) := by simp only [B_l_heldIdxS_0, hb79, hb81, hb82, cond_true, cond_false, loopE_done, loopE_ret]
       exact ⟨p_a.length - (k2 + 1), by omega, k2 + 1, IntKind.wrap .i64 ((IntKind.wrap .i64 ((IntKind.wrap .i64 (x3 + 1)) + 1)) + 1), rfl, hlt20, (by omega), rfl, rfl, rfl, (RdS.ex good_Idx hf16 hE74), (Ex.trans hf17 hE74), (by first | omega | assumption | (simp only [IntKind.wrap_i64] at *; omega)), (loopM.cont hlt20 hB83).symm.trans hI11⟩
      ·have hb82p := dec_f hb82
       refine CW.cond_t rfl (not_f hb82) (CW.seq (CW.region (sd rfl (yl_assign rfl rfl (SeqR.done (tn (CW.ret (tr (br ?_)))))))))
       refine tr (tr ?_)
       have hB87 : B_l_heldIdxS_0 p_a p_k k2 (x3) = .ret (-1) := by simp only [B_l_heldIdxS_0, hb79, hb81, hb82, cond_true, cond_false, loopE_done, loopE_ret]
       have hL86 : loopM (B_l_heldIdxS_0 p_a p_k) (p_a.length - 0) 0 (p_k) = .ret (-1) := hI11.symm.trans (loopM.ret hlt20 hB87)
       refine br (tr (rr rfl (.cons rfl .nil) ?_))
       have hM88 : (l_heldIdxS p_a p_k) = (-1) := by simp only [l_heldIdxS, hb79, hb81, hb82, hL86, cond_true, cond_false, loopE_done, loopE_ret]
       rw [hM88]
       exact ⟨rfl, (Ex.trans hf17 hE74)⟩
     ·have hb81p := dec_f hb81
      refine CW.cond_t rfl (not_f hb81) (CW.seq (CW.region (sd rfl (yl_assign rfl rfl (SeqR.done (tn (CW.ret (tr (br ?_)))))))))
      refine tr (tr ?_)
      have hB91 : B_l_heldIdxS_0 p_a p_k k2 (x3) = .ret (-1) := by simp only [B_l_heldIdxS_0, hb79, hb81, cond_true, cond_false, loopE_done, loopE_ret]
      have hL90 : loopM (B_l_heldIdxS_0 p_a p_k) (p_a.length - 0) 0 (p_k) = .ret (-1) := hI11.symm.trans (loopM.ret hlt20 hB91)
      refine br (tr (rr rfl (.cons rfl .nil) ?_))
      have hM92 : (l_heldIdxS p_a p_k) = (-1) := by simp only [l_heldIdxS, hb79, hb81, hL90, cond_true, cond_false, loopE_done, loopE_ret]
      rw [hM92]
      exact ⟨rfl, (Ex.trans hf17 hE74)⟩
    ·refine CW.cond_t rfl (not_f hb79) (CW.seq (CW.region (sd rfl (yl_assign rfl rfl (SeqR.done (tn (CW.ret (tr (br ?_)))))))))
     refine tr (tr ?_)
     have hB95 : B_l_heldIdxS_0 p_a p_k k2 (x3) = .ret (-1) := by simp only [B_l_heldIdxS_0, hb79, cond_true, cond_false, loopE_done, loopE_ret]
     have hL94 : loopM (B_l_heldIdxS_0 p_a p_k) (p_a.length - 0) 0 (p_k) = .ret (-1) := hI11.symm.trans (loopM.ret hlt20 hB95)
     refine br (tr (rr rfl (.cons rfl .nil) ?_))
     have hM96 : (l_heldIdxS p_a p_k) = (-1) := by simp only [l_heldIdxS, hb79, hL94, cond_true, cond_false, loopE_done, loopE_ret]
     rw [hM96]
     exact ⟨rfl, (Ex.trans hf17 hE74)⟩
  ·refine CW.seq (CW.seq (CW.region (sd rfl (yl_move rfl rfl (sd rfl (yl_move rfl rfl (sd rfl (yl_len Try.un34 rfl rfl (sd rfl (yl_lss rfl rfl rfl (SeqR.done (tn ?_))))))))))))
   refine CW.cond_f rfl (lt_f hlt20) (CW.exit (tx (tx ?_)))
   have hL98 : loopM (B_l_heldIdxS_0 p_a p_k) (p_a.length - 0) 0 (p_k) = .done (x3) := hI11.symm.trans (loopM.stop hlt20)
   refine bx (tn (CW.seq (CW.region (sd rfl (yl_move rfl rfl (sd rfl (yl_assign rfl rfl (SeqR.done (tn (CW.ret ?_))))))))))
   refine rr rfl (.cons rfl .nil) ?_
   have hM99 : (l_heldIdxS p_a p_k) = (x3) := by simp only [l_heldIdxS, hL98, cond_true, cond_false, loopE_done, loopE_ret]
   rw [hM99]
   exact ⟨rfl, hf17⟩
set_option maxRecDepth 100000 in
set_option maxHeartbeats 2000000 in
theorem c_l_heldTableS {A1 : Option Addr} {c1 : Nat} {w : World} (p_a : List DTable) (p_k : Int) (h1 : RdS w (Iv 0 w.heap.size) R_Table 3 A1 p_a.length c1 p_a) (pre0 : p_k ≤ 9223372036854775807) : Cal Try.prog 43 #[.slice A1 p_a.length c1, .int .i64 (p_k)] w fun v w' => v = .int .i64 ((l_heldTableS p_a p_k)) ∧ Ex w w' := by
 refine Cal.of (vs := [.slice A1 p_a.length c1, .int .i64 (p_k)]) Try.func43 rfl Try.ntmps43 rfl (CW.seq (CW.region (sd rfl (yl_assign rfl rfl (SeqR.done (tn (CW.seq (CW.seq (CW.region ?_)))))))))
 refine sd rfl (yl_assign rfl rfl (SeqR.done (tn (CW.block (CW.loop (fun m4 L5 w6 => ∃ (k2 : Nat) (x3 : Int), m4 = p_a.length - k2 ∧ k2 ≤ p_a.length ∧ w.heap.size ≤ w6.heap.size ∧ lkp L5 0 = some (.slice A1 p_a.length c1) ∧ lkp L5 1 = some (.int .i64 (x3)) ∧ lkp L5 5 = some (.int .i64 ((k2 : Int))) ∧ RdS w6 (Iv 0 w.heap.size) R_Table 3 A1 p_a.length c1 p_a ∧ Ex w w6 ∧ x3 ≤ 9223372036854775807 ∧ loopM (B_l_heldTableS_0 p_a p_k) (p_a.length - k2) k2 (x3) = loopM (B_l_heldTableS_0 p_a p_k) (p_a.length - 0) 0 (p_k)) (p_a.length - 0) ?_ ?_)))))
 ·exact ⟨0, p_k, rfl, (by omega), Nat.le_refl _, rfl, rfl, rfl, h1, (Ex.refl w), (by first | omega | assumption | (simp only [IntKind.wrap_i64] at *; omega)), rfl⟩
 ·rintro m7 L8 w9 ⟨k2, x3, rfl, hk10, hsz12, hl13, hl14, hl15, hf16, hf17, hv18, hI11⟩
  refine CW.sub (Sub.cons hl13 (Sub.cons hl14 (Sub.cons hl15 (Sub.nil _)))) ?_
  have hf17z := Ex.size hf17
  have hbg19 := RdS.big hf16
  rcases Nat.lt_or_ge k2 p_a.length with hlt20 | hlt20
  ·refine CW.seq (CW.seq (CW.region (sd rfl (yl_move rfl rfl (sd rfl (yl_move rfl rfl (sd rfl (yl_len Try.un46 rfl rfl (sd rfl (yl_lss rfl rfl rfl (SeqR.done (tn ?_))))))))))))
   refine CW.cond_t rfl (lt_t hlt20) (CW.skip (tn (CW.seq (CW.block (CW.seq (CW.seq ?_))))))
   obtain ⟨eb21, eo21, ec21, eA21, eS21, ebl21, el21, eR21, eC21⟩ := RdS.atD hf16 d_Table (i := k2) (by first | omega | assumption)
   obtain ⟨A22, c22, A23, c23, rfl, h22, h23⟩ := eR21
   have eC21 : Cells w9 eb21 (eo21 + k2 * 3) [.string (bs ((p_a.getD k2 d_Table).Name)), .slice A22 (((p_a.getD k2 d_Table).Cols).length) c22, .slice A23 (((p_a.getD k2 d_Table).Idxs).length) c23] := eC21
   refine CW.drawsI 8 (vgetI [DetI (.slice A1 p_a.length c1), DetI (.int .i64 ((k2 : Int))), DetI (.pointer (some ⟨eb21, eo21 + k2 * 3, none⟩)), DetI (.pointer (some ⟨eb21, eo21 + k2 * 3 + 0, none⟩)), DetI (.string (bs ((p_a.getD k2 d_Table).Name))), DetI (.int .i64 (x3)), DetI (.string (bs ((l_markText x3)))), DetI (.bool (!(((p_a.getD k2 d_Table).Name) == (l_markText x3))))]) Try.follows rfl rfl rfl rfl rfl rfl (vgetI_stable ⟨StableI.det _, StableI.det _, StableI.det _, StableI.det _, StableI.det _, StableI.det _, StableI.det _, StableI.det _, trivial⟩) ⟨?_, ?_, ?_, ?_, ?_, ?_, ?_, ?_, trivial⟩ ?_
   ·exact fun _ _ h => os rfl ((yl_move rfl (h.old 0 _ rfl rfl) kI))
   ·exact fun _ _ h => os rfl ((yl_move rfl (h.old 5 _ rfl rfl) kI))
   ·intro L35 w36 hi37
    have hE38 := hi37.ex
    have hE38z := Ex.size hE38
    exact os rfl ((yl_indexAddrN Try.un46 Try.ty36 rfl (hi37.dt 0 12 rfl rfl rfl) (hi37.dt 1 13 rfl rfl rfl) eA21 (by first | omega | assumption | (simp only [IntKind.wrap_i64] at *; omega)) kI))
   ·exact fun _ _ h => os rfl ((yl_fieldAddr Try.fd36_0 rfl (h.dt 2 14 rfl rfl rfl) kI))
   ·exact fun _ _ h => os rfl ((yl_load1 Try.ty9 rfl (h.dt 3 15 rfl rfl rfl) ((Cells.ex eC21 h.ex) 0 _ rfl) kI))
   ·exact fun _ _ h => os rfl ((yl_move rfl (h.old 1 _ rfl rfl) kI))
   ·intro L57 w58 hi59
    have hE60 := hi59.ex
    have hE60z := Ex.size hE60
    refine OpR.op' rfl (yl_call Try.en83 rfl (opvs_cons (hi59.dt 5 17 rfl rfl rfl) opvs_nil) (Cal.mono (c_l_markText x3 (by first | omega | assumption | (simp only [IntKind.wrap_i64] at *; omega))) ?_))
    rintro v63 w62 ⟨rfl, hE64⟩
    exact ⟨rfl, hE64⟩
   ·exact fun _ _ h => os rfl ((yl_sneq (a := ((p_a.getD k2 d_Table).Name)) (b := (l_markText x3)) rfl (h.dt 4 16 rfl rfl rfl) (h.dt 6 18 rfl rfl rfl) kI))
   ·intro fl74 fh75 L71 w72 hp73
    have hE76 := hp73.ex
    have hE76z := Ex.size hE76
    refine SeqR.done (tn (CW.sub (Sub.cons (d := 0) (hp73.old 0 _ rfl rfl) (Sub.cons (d := 1) (hp73.old 1 _ rfl rfl) (Sub.cons (d := 5) (hp73.old 5 _ rfl rfl) (Sub.cons (d := 19) (hp73.nt 7 19 rfl rfl rfl) (Sub.nil _))))) (bcase (((p_a.getD k2 d_Table).Name) == (l_markText x3)) (fun hb81 => ?_) (fun hb81 => ?_))))
    ·refine CW.cond_f rfl (not_t hb81) (CW.skip (tn (CW.seq (CW.region (sd rfl (yl_move rfl rfl (sd rfl (yl_add rfl rfl rfl (sd rfl (yl_assign rfl rfl (SeqR.done ?_)))))))))))
     refine tn (CW.seq (CW.region (sd rfl (yl_move rfl rfl (sd rfl (yl_move rfl rfl (sd rfl (yl_indexAddrN Try.un46 Try.ty36 rfl rfl rfl eA21 (by first | omega | assumption | (simp only [IntKind.wrap_i64] at *; omega)) (sd rfl (yl_fieldAddr Try.fd36_1 rfl rfl ?_))))))))))
     have q82 := Cells.ex eC21 hE76
     refine sd rfl (yl_load1 Try.ty22 rfl rfl (q82 1 _ rfl) (sd rfl (yl_move rfl rfl (sd rfl (yl_call Try.en95 rfl (opvs_cons rfl (opvs_cons rfl opvs_nil)) (Cal.mono (c_l_heldStringS ((p_a.getD k2 d_Table).Cols) (IntKind.wrap .i64 (x3 + 1)) (RdS.up (RdS.ex good_Str h22 hE76) good_Str) (by first | omega | assumption | (simp only [IntKind.wrap_i64] at *; omega))) ?_))))))
     rintro v85 w84 ⟨rfl, hE86⟩
     have hE86z := Ex.size hE86
     have hrf87 := rf_heldStringS ((p_a.getD k2 d_Table).Cols) (IntKind.wrap .i64 (x3 + 1)) (by first | omega | assumption | (simp only [IntKind.wrap_i64] at *; omega))
     refine sd rfl (yl_assign rfl rfl (SeqR.done (tn (CW.seq (CW.seq (CW.region (sd rfl (yl_move rfl rfl (sd rfl (yl_lss rfl rfl rfl (SeqR.done ?_)))))))))))
     refine tn (bcase (decide ((l_heldStringS ((p_a.getD k2 d_Table).Cols) (IntKind.wrap .i64 (x3 + 1))) < 0)) (fun hb88 => ?_) (fun hb88 => ?_))
     ·have hb88p := dec_t hb88
      refine CW.cond_t rfl hb88 (CW.seq (CW.region (sd rfl (yl_assign rfl rfl (SeqR.done (tn (CW.ret (tr (br ?_)))))))))
      refine tr (tr ?_)
      have hB90 : B_l_heldTableS_0 p_a p_k k2 (x3) = .ret (-1) := by simp only [B_l_heldTableS_0, hb81, hb88, cond_true, cond_false, loopE_done, loopE_ret]
      have hL89 : loopM (B_l_heldTableS_0 p_a p_k) (p_a.length - 0) 0 (p_k) = .ret (-1) := hI11.symm.trans (loopM.ret hlt20 hB90)
      refine br (tr (rr rfl (.cons rfl .nil) ?_))
      have hM91 : (l_heldTableS p_a p_k) = (-1) := by simp only [l_heldTableS, hb81, hb88, hL89, cond_true, cond_false, loopE_done, loopE_ret]
      rw [hM91]
      exact ⟨rfl, (Ex.trans (Ex.trans hf17 hE76) hE86)⟩
     ·have hb88p := dec_f hb88
      refine CW.cond_f rfl hb88 (CW.skip (tn (CW.seq (CW.region (sd rfl (yl_move rfl rfl (sd rfl (yl_move rfl rfl (sd rfl (yl_indexAddrN Try.un46 Try.ty36 rfl rfl rfl eA21 (by first | omega | assumption | (simp only [IntKind.wrap_i64] at *; omega)) (sd rfl (yl_fieldAddr Try.fd36_2 rfl rfl ?_))))))))))))
      refine sd rfl (yl_load1 Try.ty34 rfl rfl ((Cells.ex q82 hE86) 2 _ rfl) (sd rfl (yl_move rfl rfl (sd rfl (yl_call Try.en96 rfl (opvs_cons rfl (opvs_cons rfl opvs_nil)) (Cal.mono (c_l_heldIdxS ((p_a.getD k2 d_Table).Idxs) (l_heldStringS ((p_a.getD k2 d_Table).Cols) (IntKind.wrap .i64 (x3 + 1))) (RdS.up (RdS.ex good_Idx (RdS.ex good_Idx h23 hE76) hE86) good_Idx) (by first | omega | assumption | (simp only [IntKind.wrap_i64] at *; omega))) ?_))))))
      rintro v98 w97 ⟨rfl, hE99⟩
      have hE99z := Ex.size hE99
      have hrf100 := rf_heldIdxS ((p_a.getD k2 d_Table).Idxs) (l_heldStringS ((p_a.getD k2 d_Table).Cols) (IntKind.wrap .i64 (x3 + 1))) (by first | omega | assumption | (simp only [IntKind.wrap_i64] at *; omega))
      refine sd rfl (yl_assign rfl rfl (SeqR.done (tn (CW.seq (CW.region (sd rfl (yl_move rfl rfl (sd rfl (yl_lss rfl rfl rfl (SeqR.done (tn ?_)))))))))))
      refine bcase (decide ((l_heldIdxS ((p_a.getD k2 d_Table).Idxs) (l_heldStringS ((p_a.getD k2 d_Table).Cols) (IntKind.wrap .i64 (x3 + 1)))) < 0)) (fun hb101 => ?_) (fun hb101 => ?_)
      ·have hb101p := dec_t hb101
       refine CW.cond_t rfl hb101 (CW.seq (CW.region (sd rfl (yl_assign rfl rfl (SeqR.done (tn (CW.ret (br (tr ?_)))))))))
       refine tr ?_
       have hB103 : B_l_heldTableS_0 p_a p_k k2 (x3) = .ret (-1) := by simp only [B_l_heldTableS_0, hb81, hb88, hb101, cond_true, cond_false, loopE_done, loopE_ret]
       have hL102 : loopM (B_l_heldTableS_0 p_a p_k) (p_a.length - 0) 0 (p_k) = .ret (-1) := hI11.symm.trans (loopM.ret hlt20 hB103)
       refine br (tr (rr rfl (.cons rfl .nil) ?_))
       have hM104 : (l_heldTableS p_a p_k) = (-1) := by simp only [l_heldTableS, hb81, hb88, hb101, hL102, cond_true, cond_false, loopE_done, loopE_ret]
       rw [hM104]
       exact ⟨rfl, (Ex.trans (Ex.trans (Ex.trans hf17 hE76) hE86) hE99)⟩
      ·have hb101p := dec_f hb101
       refine CW.cond_f rfl hb101 (CW.skip (bn (tn (CW.region (sd rfl (yl_move rfl rfl (sd rfl (yl_inc rfl rfl rfl (by omega) (sd rfl (yl_assign rfl rfl (SeqR.done ?_)))))))))))
       refine tn ?_
       have hB108 : B_l_heldTableS_0 p_a p_k k2 (x3) = .cont ((l_heldIdxS ((p_a.getD k2 d_Table).Idxs) (l_heldStringS ((p_a.getD k2 d_Table).Cols) (IntKind.wrap .i64 (x3 + 1))))) := by simp only [B_l_heldTableS_0, hb81, hb88, hb101, cond_true, cond_false, loopE_done, loopE_ret]
       exact ⟨p_a.length - (k2 + 1), by omega, k2 + 1, (l_heldIdxS ((p_a.getD k2 d_Table).Idxs) (l_heldStringS ((p_a.getD k2 d_Table).Cols) (IntKind.wrap .i64 (x3 + 1)))), rfl, hlt20, (by omega), rfl, rfl, rfl, (RdS.ex good_Table (RdS.ex good_Table (RdS.ex good_Table hf16 hE76) hE86) hE99), (Ex.trans (Ex.trans (Ex.trans hf17 hE76) hE86) hE99), (by first | omega | assumption | (simp only [IntKind.wrap_i64] at *; omega)), (loopM.cont hlt20 hB108).symm.trans hI11⟩
    ·refine CW.cond_t rfl (not_f hb81) (CW.seq (CW.region (sd rfl (yl_assign rfl rfl (SeqR.done (tn (CW.ret (tr (br ?_)))))))))
     refine tr (tr ?_)
     have hB116 : B_l_heldTableS_0 p_a p_k k2 (x3) = .ret (-1) := by simp only [B_l_heldTableS_0, hb81, cond_true, cond_false, loopE_done, loopE_ret]
     have hL115 : loopM (B_l_heldTableS_0 p_a p_k) (p_a.length - 0) 0 (p_k) = .ret (-1) := hI11.symm.trans (loopM.ret hlt20 hB116)
     refine br (tr (rr rfl (.cons rfl .nil) ?_))
     have hM117 : (l_heldTableS p_a p_k) = (-1) := by simp only [l_heldTableS, hb81, hL115, cond_true, cond_false, loopE_done, loopE_ret]
     rw [hM117]
     exact ⟨rfl, (Ex.trans hf17 hE76)⟩
  ·refine CW.seq (CW.seq (CW.region (sd rfl (yl_move rfl rfl (sd rfl (yl_move rfl rfl (sd rfl (yl_len Try.un46 rfl rfl (sd rfl (yl_lss rfl rfl rfl (SeqR.done (tn ?_))))))))))))
   refine CW.cond_f rfl (lt_f hlt20) (CW.exit (tx (tx ?_)))
   have hL119 : loopM (B_l_heldTableS_0 p_a p_k) (p_a.length - 0) 0 (p_k) = .done (x3) := hI11.symm.trans (loopM.stop hlt20)
   refine bx (tn (CW.seq (CW.region (sd rfl (yl_move rfl rfl (sd rfl (yl_assign rfl rfl (SeqR.done (tn (CW.ret ?_))))))))))
   refine rr rfl (.cons rfl .nil) ?_
   have hM120 : (l_heldTableS p_a p_k) = (x3) := by simp only [l_heldTableS, hL119, cond_true, cond_false, loopE_done, loopE_ret]
   rw [hM120]
   exact ⟨rfl, hf17⟩
set_option maxRecDepth 100000 in
set_option maxHeartbeats 2000000 in
theorem c_l_FnExactWayTo {A1 : Option Addr} {c1 : Nat} {A2 : Option Addr} {c2 : Nat} {w : World} (p_0 : DTable) (p_1 : Str) (p_2 : Int) (h1 : RdS w (Iv 0 w.heap.size) (RF e_Str) 1 A1 p_0.Cols.length c1 p_0.Cols) (h2 : RdS w (Iv 0 w.heap.size) (RF e_Idx) 3 A2 p_0.Idxs.length c2 p_0.Idxs) (pre0 : wf_Table p_0) (pre1 : wfS p_1) (pre2 : wfI p_2) : Cal Try.prog 6 #[.agg #[.string (bs (p_0.Name)), .slice A1 p_0.Cols.length c1, .slice A2 p_0.Idxs.length c2], .string (bs (p_1)), .int .i64 (p_2)] w fun v w' => v = .bool ((l_FnExactWayTo p_0 p_1 p_2)) ∧ Ex w w' := by
 refine Cal.of (vs := [.agg #[.string (bs (p_0.Name)), .slice A1 p_0.Cols.length c1, .slice A2 p_0.Idxs.length c2], .string (bs (p_1)), .int .i64 (p_2)]) Try.func6 rfl Try.ntmps6 rfl (CW.seq (CW.region (sd rfl (yl_box (cs := [.string (bs (p_0.Name)), .slice A1 p_0.Cols.length c1, .slice A2 p_0.Idxs.length c2]) rfl rfl rfl ?_))))
 intro b3 w4 hs5 hz6 hB7 hE8
 refine sd rfl (yl_assign rfl rfl (SeqR.done (tn (CW.seq (CW.seq (CW.region (sd rfl (yl_move rfl rfl (sd rfl (yl_slen Try.un9 (a := p_1) rfl rfl (sd rfl (yl_gtr rfl rfl rfl ?_))))))))))))
 refine SeqR.done (tn (bcase (decide (1048576 < (p_1.length : Int))) (fun hb9 => ?_) (fun hb9 => ?_)))
 ·have hb9p := dec_t hb9
  refine CW.cond_t rfl hb9 (CW.seq (CW.region (sd rfl (yl_assign rfl rfl (SeqR.done (tn (CW.ret (tr (rr rfl (.cons rfl .nil) ?_)))))))))
  have hM10 : (l_FnExactWayTo p_0 p_1 p_2) = (true) := by simp only [l_FnExactWayTo, hb9, cond_true, cond_false, loopE_done, loopE_ret]
  rw [hM10]
  exact ⟨rfl, (Ex.trans (Ex.refl w) hE8)⟩
 ·have hb9p := dec_f hb9
  refine CW.cond_f rfl hb9 (CW.skip (tn (CW.seq (CW.region (sd rfl (yl_assign rfl rfl (SeqR.done (tn (CW.seq ?_)))))))))
  refine CW.region (sd rfl (yl_loadN (cs := [.string (bs (p_0.Name)), .slice A1 p_0.Cols.length c1, .slice A2 p_0.Idxs.length c2]) Try.ty25 rfl rfl (hB7.cells (n := 3) rfl) rfl (sd rfl (yl_move rfl rfl ?_))))
  have q12 := RdS.ex good_Str h1 hE8
  have q13 := RdS.ex good_Idx h2 hE8
  refine sd rfl (yl_call Try.en11 rfl (opvs_cons rfl (opvs_cons rfl opvs_nil)) (Cal.mono (c_l_szTable p_0 1048576 (RdS.up q12 good_Str) (RdS.up q13 good_Idx)) ?_))
  rintro v15 w14 ⟨rfl, hE16⟩
  have hE16z := Ex.size hE16
  refine sd rfl (yl_assign rfl rfl (SeqR.done (tn (CW.seq (CW.seq (CW.region (sd rfl (yl_move rfl rfl (sd rfl (yl_lss rfl rfl rfl (SeqR.done ?_)))))))))))
  refine tn (bcase (decide ((l_szTable p_0 1048576) < 0)) (fun hb17 => ?_) (fun hb17 => ?_))
  ·have hb17p := dec_t hb17
   refine CW.cond_t rfl hb17 (CW.seq (CW.region (sd rfl (yl_assign rfl rfl (SeqR.done (tn (CW.ret (tr (rr rfl (.cons rfl .nil) ?_)))))))))
   have hM18 : (l_FnExactWayTo p_0 p_1 p_2) = (true) := by simp only [l_FnExactWayTo, hb9, hb17, cond_true, cond_false, loopE_done, loopE_ret]
   rw [hM18]
   exact ⟨rfl, (Ex.trans (Ex.trans (Ex.refl w) hE8) hE16)⟩
  ·have hb17p := dec_f hb17
   refine CW.cond_f rfl hb17 (CW.skip (tn (CW.seq (CW.region ?_))))
   have q21 := Box.ex hB7 hE16
   refine sd rfl (yl_loadN (cs := [.string (bs (p_0.Name)), .slice A1 p_0.Cols.length c1, .slice A2 p_0.Idxs.length c2]) Try.ty25 rfl rfl (q21.cells (n := 3) rfl) rfl ?_)
   have q22 := RdS.ex good_Str q12 hE16
   have q23 := RdS.ex good_Idx q13 hE16
   refine sd rfl (yl_call Try.en14 rfl (opvs_cons rfl opvs_nil) (Cal.mono (c_l_toTable p_0 (RdS.up q22 good_Str) (RdS.up q23 good_Idx) ((szok_Table pre0 (by decide) (dec_f hb17)).1)) ?_))
   rintro v27 w24 ⟨A25, c25, lo25, hi25, A26, c26, lo26, hi26, rfl, h25, h26, hrn29, hrn30, hrn31, hE28⟩
   have hE28z := Ex.size hE28
   refine sd rfl (yl_move rfl rfl (sd rfl (yl_move rfl rfl (sd rfl (yl_call Try.en39 rfl (opvs_cons rfl (opvs_cons rfl (opvs_cons rfl opvs_nil))) (Cal.mono (c_s_WayTo p_0 p_1 p_2 (RdS.up (OwnL.rd good_Str h25) good_Str) (RdS.up (OwnL.rd good_Idx h26) good_Idx) ((szok_Table pre0 (by decide) (dec_f hb17)).1) (by unfold okS; omega)) ?_))))))
   rintro v37 w34 ⟨A35, c35, lo35, hi35, rfl, h35, ho36, hrn39, hE38⟩
   have hE38z := Ex.size hE38
   refine sd rfl (yl_move rfl rfl (sd rfl (yl_extract rfl rfl rfl (sd rfl (yl_extract rfl rfl rfl (sd rfl (yl_assign rfl rfl (sd rfl (yl_assign rfl rfl (SeqR.done (tn (CW.seq (CW.region ?_)))))))))))))
   have q41 := Box.ex (Box.ex q21 hE28) hE38
   refine sd rfl (yl_loadN (cs := [.string (bs (p_0.Name)), .slice A1 p_0.Cols.length c1, .slice A2 p_0.Idxs.length c2]) Try.ty25 rfl rfl (q41.cells (n := 3) rfl) rfl ?_)
   have q43 := RdS.ex good_Str (RdS.ex good_Str q22 hE28) hE38
   have q45 := RdS.ex good_Idx (RdS.ex good_Idx q23 hE28) hE38
   refine sd rfl (yl_call Try.en14 rfl (opvs_cons rfl opvs_nil) (Cal.mono (c_l_toTable p_0 (RdS.up q43 good_Str) (RdS.up q45 good_Idx) ((szok_Table pre0 (by decide) (dec_f hb17)).1)) ?_))
   rintro v49 w46 ⟨A47, c47, lo47, hi47, A48, c48, lo48, hi48, rfl, h47, h48, hrn51, hrn52, hrn53, hE50⟩
   have hE50z := Ex.size hE50
   refine sd rfl (yl_alloc Try.ty36 (cs := [.string (bs (([] : Str))), .slice none 0 0, .slice none 0 0]) rfl rfl ?_)
   intro b54 w55 hs56 hz57 hB58 hE59
   refine SeqR.u rfl rfl (yl_store (vs := [.string (bs (p_0.Name)), .slice A47 p_0.Cols.length c47, .slice A48 p_0.Idxs.length c48]) Try.ty36 rfl rfl rfl rfl rfl rfl hB58 (Nat.le_of_ble_eq_true rfl) ?_)
   intro w60 hB61 hO62
   have hB61 : Box w60 b54 36 [.string (bs (p_0.Name)), .slice A47 p_0.Cols.length c47, .slice A48 p_0.Idxs.length c48] := hB61
   have hO62z := hO62.size
   refine SeqR.done (tn (CW.seq (CW.region (sd rfl (yl_loadN (cs := [.string (bs (p_0.Name)), .slice A47 p_0.Cols.length c47, .slice A48 p_0.Idxs.length c48]) Try.ty36 rfl rfl (hB61.cells (n := 3) rfl) rfl (sd rfl (yl_move rfl rfl (sd rfl (yl_move rfl rfl ?_)))))))))
   have q65 := OwnL.only good_Str (OwnL.ex good_Str h47 hE59) hO62 (by omega)
   have q68 := OwnL.only good_Idx (OwnL.ex good_Idx h48 hE59) hO62 (by omega)
   refine sd rfl (yl_call Try.en40 rfl (opvs_cons rfl (opvs_cons rfl (opvs_cons rfl opvs_nil))) (Cal.mono (c_i_WayTo p_0 p_1 p_2 (RdS.up (OwnL.rd good_Str q65) good_Str) (RdS.up (OwnL.rd good_Idx q68) good_Idx) ((szok_Table pre0 (by decide) (dec_f hb17)).1) (by unfold okS; omega)) ?_))
   rintro v72 w69 ⟨A70, c70, lo70, hi70, rfl, h70, ho71, hrn74, hE73⟩
   have hE73z := Ex.size hE73
   refine sd rfl (yl_move rfl rfl (sd rfl (yl_extract rfl rfl rfl (sd rfl (yl_extract rfl rfl rfl (sd rfl (yl_assign rfl rfl (sd rfl (yl_assign rfl rfl (SeqR.done (tn (CW.seq (CW.seq ?_)))))))))))))
   refine CW.region (sd rfl (yl_move rfl rfl (sd rfl (yl_move rfl rfl ?_))))
   have q80 := OwnD.ex goodO_Table (OwnD.only goodO_Table (OwnD.ex goodO_Table (OwnD.ex goodO_Table h35 hE50) hE59) hO62 (by omega)) hE73
   refine sd rfl (yl_call Try.en41 rfl (opvs_cons rfl (opvs_cons rfl opvs_nil)) (Cal.mono (c_l_eqTableS ((i_WayTo p_0 p_1 p_2).1) ((s_WayTo p_0 p_1 p_2).1) (RdS.up (OwnL.rd good_Table (OwnD.own goodO_Table good_Table h70)) good_Table) (RdS.up (OwnL.rd good_Table (OwnD.own goodO_Table good_Table q80)) good_Table)) ?_))
   rintro v82 w81 ⟨rfl, hE83⟩
   have hE83z := Ex.size hE83
   refine sd rfl (yl_not rfl rfl (sd rfl (yl_move rfl rfl (bcase (l_eqTableS ((i_WayTo p_0 p_1 p_2).1) ((s_WayTo p_0 p_1 p_2).1)) (fun hb84 => ?_) (fun hb84 => ?_)))))
   ·refine sy rfl rfl (not_t hb84) (yl_move rfl rfl (sy rfl rfl (not_t hb84) (yl_move rfl rfl (sy rfl rfl (not_t hb84) (yl_bneq Try.un4 rfl rfl rfl (sd rfl (yl_pick_f rfl rfl (not_t hb84) rfl (SeqR.done (tn (bcase (((i_WayTo p_0 p_1 p_2).2) == ((s_WayTo p_0 p_1 p_2).2)) (fun hb85 => ?_) (fun hb85 => ?_)))))))))))
    ·refine CW.cond_f rfl (not_t hb85) (CW.skip (tn (CW.seq (CW.seq ?_))))
     have q87 := Box.ex (Box.ex hB61 hE73) hE83
     have q92 := Box.ex (Box.ex (Box.only (Box.ex (Box.ex q41 hE50) hE59) hO62 (by omega)) hE73) hE83
     have q97 := RdS.ex good_Str (RdS.ex good_Str (RdS.only good_Str (RdS.ex good_Str (RdS.ex good_Str q43 hE50) hE59) hO62 (by simp only [Iv]; omega)) hE73) hE83
     have q102 := RdS.ex good_Idx (RdS.ex good_Idx (RdS.only good_Idx (RdS.ex good_Idx (RdS.ex good_Idx q45 hE50) hE59) hO62 (by simp only [Iv]; omega)) hE73) hE83
     have q108 := OwnL.ex good_Str (OwnL.ex good_Str q65 hE73) hE83
     have q111 := OwnL.ex good_Idx (OwnL.ex good_Idx q68 hE73) hE83
     refine CW.drawsI 5 (vgetI [DetI (.agg #[.string (bs (p_0.Name)), .slice A47 p_0.Cols.length c47, .slice A48 p_0.Idxs.length c48]), DetI (.agg #[.string (bs (p_0.Name)), .slice A1 p_0.Cols.length c1, .slice A2 p_0.Idxs.length c2]), fun lo hi v wq => ∃ A104 c104 lo104 hi104 A105 c105 lo105 hi105, v = .agg #[.string (bs (p_0.Name)), .slice A104 p_0.Cols.length c104, .slice A105 p_0.Idxs.length c105] ∧ OwnL wq lo104 hi104 9 1 (RF e_Str) A104 p_0.Cols.length c104 p_0.Cols ∧ OwnL wq lo105 hi105 171 3 (RF e_Idx) A105 p_0.Idxs.length c105 p_0.Idxs ∧ (lo ≤ lo104 ∧ lo104 ≤ hi104 ∧ hi104 ≤ hi) ∧ (lo ≤ lo105 ∧ lo105 ≤ hi105 ∧ hi105 ≤ hi) ∧ (hi104 ≤ lo105 ∨ hi105 ≤ lo104), DetI (.bool ((l_eqTable p_0 p_0))), DetI (.bool (!(l_eqTable p_0 p_0)))]) Try.follows rfl rfl rfl rfl rfl rfl (vgetI_stable ⟨StableI.det _, StableI.det _, (fun _ _ _ _ _ ⟨A104, c104, lo104, hi104, A105, c105, lo105, hi105, hv, h104, h105, hr0, hr1, hr2⟩ e => ⟨A104, c104, lo104, hi104, A105, c105, lo105, hi105, hv, OwnL.ex good_Str h104 e, OwnL.ex good_Idx h105 e, hr0, hr1, hr2⟩), StableI.det _, StableI.det _, trivial⟩) ⟨?_, ?_, ?_, ?_, ?_, trivial⟩ ?_
     ·exact fun _ _ h => os rfl ((yl_loadN (cs := [.string (bs (p_0.Name)), .slice A47 p_0.Cols.length c47, .slice A48 p_0.Idxs.length c48]) Try.ty36 rfl (h.old 10 _ rfl rfl) ((Box.ex q87 h.ex).cells (n := 3) rfl) rfl kI))
     ·exact fun _ _ h => os rfl ((yl_loadN (cs := [.string (bs (p_0.Name)), .slice A1 p_0.Cols.length c1, .slice A2 p_0.Idxs.length c2]) Try.ty25 rfl (h.old 3 _ rfl rfl) ((Box.ex q92 h.ex).cells (n := 3) rfl) rfl kI))
     ·intro L125 w126 hi127
      have hE128 := hi127.ex
      refine OpR.op' rfl (yl_call Try.en14 rfl (opvs_cons (hi127.dt 1 53 rfl rfl rfl) opvs_nil) (Cal.mono (c_l_toTable p_0 (RdS.up (RdS.ex good_Str q97 hE128) good_Str) (RdS.up (RdS.ex good_Idx q102 hE128) good_Idx) ((szok_Table pre0 (by decide) (dec_f hb17)).1)) ?_))
      rintro v135 w132 ⟨A133, c133, lo133, hi133, A134, c134, lo134, hi134, rfl, h133, h134, hrn137, hrn138, hrn139, hE136⟩
      exact ⟨⟨A133, c133, lo133, hi133, A134, c134, lo134, hi134, rfl, h133, h134, hrn137, hrn138, hrn139⟩, hE136⟩
     ·intro L140 w141 hi142
      have hE143 := hi142.ex
      obtain ⟨lo146, hh147, _, hx145, hr148, hr149, hr150, A104_151, c104_152, lo104_153, hi104_154, A105_155, c105_156, lo105_157, hi105_158, rfl, h159, h160, hrn161, hrn162, hrn163⟩ := hi142.dep 2 54 rfl rfl
      refine OpR.op' rfl (yl_call Try.en18 rfl (opvs_cons (hi142.dt 0 52 rfl rfl rfl) (opvs_cons hx145 opvs_nil)) (Cal.mono (c_l_eqTable p_0 p_0 (RdS.up (OwnL.rd good_Str (OwnL.ex good_Str q108 hE143)) good_Str) (RdS.up (OwnL.rd good_Idx (OwnL.ex good_Idx q111 hE143)) good_Idx) (RdS.up (OwnL.rd good_Str h159) good_Str) (RdS.up (OwnL.rd good_Idx h160) good_Idx)) ?_))
      rintro v171 w170 ⟨rfl, hE172⟩
      exact ⟨rfl, hE172⟩
     ·exact fun _ _ h => os rfl ((yl_not rfl (h.dt 3 55 rfl rfl rfl) kI))
     ·intro fl181 fh182 L178 w179 hp180
      have hE183 := hp180.ex
      have hE183z := Ex.size hE183
      have hr193 := hp180.rng 2 rfl
      obtain ⟨_, hx192, A104_194, c104_195, lo104_196, hi104_197, A105_198, c105_199, lo105_200, hi105_201, rfl, h202, h203, hrn204, hrn205, hrn206⟩ := hp180.new 2 54 rfl rfl
      refine SeqR.done (tn (CW.sub (Sub.cons (d := 1) (hp180.old 1 _ rfl rfl) (Sub.cons (d := 2) (hp180.old 2 _ rfl rfl) (Sub.cons (d := 3) (hp180.old 3 _ rfl rfl) (Sub.cons (d := 8) (hp180.old 8 _ rfl rfl) (Sub.cons (d := 9) (hp180.old 9 _ rfl rfl) (Sub.cons (d := 10) (hp180.old 10 _ rfl rfl) (Sub.cons (d := 11) (hp180.old 11 _ rfl rfl) (Sub.cons (d := 12) (hp180.old 12 _ rfl rfl) (Sub.cons (d := 56) (hp180.nt 4 56 rfl rfl rfl) (Sub.nil _)))))))))) (bcase (l_eqTable p_0 p_0) (fun hb208 => ?_) (fun hb208 => ?_))))
      ·refine CW.cond_f rfl (not_t hb208) (CW.skip (tn (CW.seq (CW.region (sd rfl (yl_assign rfl rfl (SeqR.done (tn (CW.seq ?_)))))))))
       refine CW.region (sd rfl (yl_loadN (cs := [.string (bs (p_0.Name)), .slice A47 p_0.Cols.length c47, .slice A48 p_0.Idxs.length c48]) Try.ty36 rfl rfl ((Box.ex q87 hE183).cells (n := 3) rfl) rfl (sd rfl (yl_move rfl rfl (sd rfl (yl_call Try.en26 rfl (opvs_cons rfl (opvs_cons rfl opvs_nil)) (Cal.mono (c_l_markTable p_0 1 (OwnL.ex good_Str q108 hE183) (OwnL.ex good_Idx q111 hE183) (by omega) (by omega) (by omega) (by first | omega | assumption | (simp only [IntKind.wrap_i64] at *; omega))) ?_)))))))
       rintro v213 w212 ⟨rfl, h215, h216, hm214⟩
       have hm214z := Mut.size hm214
       have hrf217 := rf_markTable p_0 1 (by first | omega | assumption | (simp only [IntKind.wrap_i64] at *; omega))
       refine sd rfl (yl_assign rfl rfl (SeqR.done (tn (CW.seq (CW.seq (CW.region (sd rfl (yl_move rfl rfl (sd rfl (yl_lss rfl rfl rfl (sd rfl (yl_move rfl rfl ?_))))))))))))
       refine bcase (decide (((l_markTable p_0 1).1) < 0)) (fun hb218 => ?_) (fun hb218 => ?_)
       ·have hb218p := dec_t hb218
        refine sz rfl rfl hb218 (sz rfl rfl hb218 (sz rfl rfl hb218 (sz rfl rfl hb218 (sd rfl (yl_pick_t rfl rfl hb218 rfl (sd rfl (yl_move rfl rfl (sz rfl rfl rfl (sz rfl rfl rfl (sz rfl rfl rfl ?_))))))))))
        refine sd rfl (yl_pick_t rfl rfl rfl rfl (SeqR.done (tn (CW.cond_t rfl rfl (CW.seq (CW.region (sd rfl (yl_assign rfl rfl (SeqR.done (tn ?_))))))))))
        refine CW.ret (tr (rr rfl (.cons rfl .nil) ?_))
        have hM219 : (l_FnExactWayTo p_0 p_1 p_2) = (false) := by simp only [l_FnExactWayTo, hb9, hb17, hb84, hb85, hb208, hb218, cond_true, cond_false, loopE_done, loopE_ret]
        rw [hM219]
        exact ⟨rfl, (Ex.mut (Ex.trans (Ex.trans (Ex.trans (Below.only (Ex.trans (Ex.trans (Ex.trans (Ex.trans (Ex.trans (Ex.trans (Ex.refl w) hE8) hE16) hE28) hE38) hE50) hE59) hO62 (by omega)) hE73) hE83) hE183) hm214 (fun k hk => by simp only [InR, or_false] at hk; omega))⟩
       ·have hb218p := dec_f hb218
        refine sy rfl rfl hb218 (yl_move rfl rfl (sy rfl rfl hb218 (yl_move rfl rfl ?_)))
        have q234 := OwnD.mut goodO_Table (OwnD.ex goodO_Table (OwnD.ex goodO_Table h70 hE83) hE183) hm214 (fun k hk => by simp only [InR, or_false] at hk; omega)
        have q238 := OwnD.mut goodO_Table (OwnD.ex goodO_Table (OwnD.ex goodO_Table q80 hE83) hE183) hm214 (fun k hk => by simp only [InR, or_false] at hk; omega)
        refine sy rfl rfl hb218 (yl_call Try.en41 rfl (opvs_cons rfl (opvs_cons rfl opvs_nil)) (Cal.mono (c_l_eqTableS ((i_WayTo p_0 p_1 p_2).1) ((s_WayTo p_0 p_1 p_2).1) (RdS.up (OwnL.rd good_Table (OwnD.own goodO_Table good_Table q234)) good_Table) (RdS.up (OwnL.rd good_Table (OwnD.own goodO_Table good_Table q238)) good_Table)) ?_))
        rintro v240 w239 ⟨rfl, hE241⟩
        have hE241z := Ex.size hE241
        refine sy rfl rfl hb218 (yl_not rfl rfl (sd rfl (yl_pick_f rfl rfl hb218 rfl (sd rfl (yl_move rfl rfl (sy rfl rfl (not_t hb84) (yl_move rfl rfl (sy rfl rfl (not_t hb84) (yl_move rfl rfl (sy rfl rfl (not_t hb84) (yl_bneq Try.un4 rfl rfl rfl (sd rfl (yl_pick_f rfl rfl (not_t hb84) rfl (SeqR.done (tn ?_)))))))))))))))
        refine CW.cond_f rfl (not_t hb85) (CW.skip (tn (CW.seq (CW.region (sd rfl (yl_assign rfl rfl (SeqR.done (tn (CW.seq ?_)))))))))
        refine CW.region (sd rfl (yl_move rfl rfl (sd rfl (yl_move rfl rfl (sd rfl (yl_call Try.en42 rfl (opvs_cons rfl (opvs_cons rfl opvs_nil)) (Cal.mono (c_l_markTableS ((i_WayTo p_0 p_1 p_2).1) 1 (OwnD.ex goodO_Table q234 hE241) (by omega) (by first | omega | assumption | (simp only [IntKind.wrap_i64] at *; omega))) ?_)))))))
        rintro v244 w243 ⟨rfl, h246, hm245⟩
        have hm245z := Mut.size hm245
        have hrf247 := rf_markTableS ((i_WayTo p_0 p_1 p_2).1) 1 (by first | omega | assumption | (simp only [IntKind.wrap_i64] at *; omega))
        refine sd rfl (yl_assign rfl rfl (SeqR.done (tn (CW.seq (CW.region (sd rfl (yl_assign rfl rfl (SeqR.done (tn (CW.seq ?_))))))))))
        refine CW.region (sd rfl (yl_move rfl rfl (sd rfl (yl_move rfl rfl ?_))))
        have hle248 := OwnD.len h246
        refine sd rfl (yl_call Try.en43 rfl (opvs_cons rfl (opvs_cons rfl opvs_nil)) (Cal.mono (Cal.args (by rw [← hle248] <;> rfl) (c_l_heldTableS ((l_markTableS ((i_WayTo p_0 p_1 p_2).1) 1).2) 1 (RdS.fix (RdS.up (OwnL.rd good_Table (OwnD.own goodO_Table good_Table h246)) good_Table)) (by first | omega | assumption | (simp only [IntKind.wrap_i64] at *; omega)))) ?_))
        rintro v251 w250 ⟨rfl, hE252⟩
        have hE252z := Ex.size hE252
        have hrf253 := rf_heldTableS ((l_markTableS ((i_WayTo p_0 p_1 p_2).1) 1).2) 1 (by first | omega | assumption | (simp only [IntKind.wrap_i64] at *; omega))
        refine sd rfl (yl_assign rfl rfl (SeqR.done (tn (CW.seq (CW.seq (CW.region (sd rfl (yl_move rfl rfl (sd rfl (yl_lss rfl rfl rfl (SeqR.done ?_)))))))))))
        refine tn (bcase (decide ((l_heldTableS ((l_markTableS ((i_WayTo p_0 p_1 p_2).1) 1).2) 1) < 0)) (fun hb254 => ?_) (fun hb254 => ?_))
        ·have hb254p := dec_t hb254
         refine CW.cond_t rfl hb254 (CW.seq (CW.region (sd rfl (yl_assign rfl rfl (SeqR.done (tn (CW.ret (tr (rr rfl (.cons rfl .nil) ?_)))))))))
         have hM255 : (l_FnExactWayTo p_0 p_1 p_2) = (false) := by simp only [l_FnExactWayTo, hb9, hb17, hb84, hb85, hb208, hb218, hb254, cond_true, cond_false, loopE_done, loopE_ret]
         rw [hM255]
         exact ⟨rfl, (Ex.trans (Ex.mut (Ex.trans (Ex.mut (Ex.trans (Ex.trans (Ex.trans (Below.only (Ex.trans (Ex.trans (Ex.trans (Ex.trans (Ex.trans (Ex.trans (Ex.refl w) hE8) hE16) hE28) hE38) hE50) hE59) hO62 (by omega)) hE73) hE83) hE183) hm214 (fun k hk => by simp only [InR, or_false] at hk; omega)) hE241) hm245 (fun k hk => by simp only [InR, or_false] at hk; omega)) hE252)⟩
        ·have hb254p := dec_f hb254
         refine CW.cond_f rfl hb254 (CW.skip (tn (CW.seq (CW.seq (CW.region (sd rfl (yl_move rfl rfl (sd rfl (yl_move rfl rfl (sd rfl (yl_neq rfl rfl rfl ?_)))))))))))
         refine SeqR.done (tn (bcase (decide ((l_heldTableS ((l_markTableS ((i_WayTo p_0 p_1 p_2).1) 1).2) 1) = ((l_markTableS ((i_WayTo p_0 p_1 p_2).1) 1).1))) (fun hb270 => ?_) (fun hb270 => ?_)))
         ·have hb270p := dec_t hb270
          refine CW.cond_f rfl (not_t hb270) (CW.skip (tn (CW.seq (CW.region (sd rfl (yl_loadN (cs := [.string (bs (p_0.Name)), .slice A1 p_0.Cols.length c1, .slice A2 p_0.Idxs.length c2]) Try.ty25 rfl rfl ((Box.ex (Box.mut (Box.ex (Box.mut (Box.ex q92 hE183) hm214 (fun k hk => by simp only [InR, or_false] at hk; omega)) hE241) hm245 (fun k hk => by simp only [InR, or_false] at hk; omega)) hE252).cells (n := 3) rfl) rfl (sd rfl (yl_call Try.en14 rfl (opvs_cons rfl opvs_nil) (Cal.mono (c_l_toTable p_0 (RdS.up (RdS.ex good_Str (RdS.mut good_Str (RdS.ex good_Str (RdS.mut good_Str (RdS.ex good_Str q97 hE183) hm214 (fun k hk => by simp only [InR, or_false, Iv, Ge] at hk ⊢; omega)) hE241) hm245 (fun k hk => by simp only [InR, or_false, Iv, Ge] at hk ⊢; omega)) hE252) good_Str) (RdS.up (RdS.ex good_Idx (RdS.mut good_Idx (RdS.ex good_Idx (RdS.mut good_Idx (RdS.ex good_Idx q102 hE183) hm214 (fun k hk => by simp only [InR, or_false, Iv, Ge] at hk ⊢; omega)) hE241) hm245 (fun k hk => by simp only [InR, or_false, Iv, Ge] at hk ⊢; omega)) hE252) good_Idx) ((szok_Table pre0 (by decide) (dec_f hb17)).1)) ?_)))))))))
          rintro v289 w286 ⟨A287, c287, lo287, hi287, A288, c288, lo288, hi288, rfl, h287, h288, hrn291, hrn292, hrn293, hE290⟩
          have hE290z := Ex.size hE290
          refine sd rfl (yl_move rfl rfl (sd rfl (yl_move rfl rfl (sd rfl (yl_call Try.en40 rfl (opvs_cons rfl (opvs_cons rfl (opvs_cons rfl opvs_nil))) (Cal.mono (c_i_WayTo p_0 p_1 p_2 (RdS.up (OwnL.rd good_Str h287) good_Str) (RdS.up (OwnL.rd good_Idx h288) good_Idx) ((szok_Table pre0 (by decide) (dec_f hb17)).1) (by unfold okS; omega)) ?_))))))
          rintro v299 w296 ⟨A297, c297, lo297, hi297, rfl, h297, ho298, hrn301, hE300⟩
          have hE300z := Ex.size hE300
          refine sd rfl (yl_move rfl rfl (sd rfl (yl_extract rfl rfl rfl (sd rfl (yl_extract rfl rfl rfl (sd rfl (yl_assign rfl rfl (sd rfl (yl_assign rfl rfl (SeqR.done (tn (CW.seq (CW.seq ?_)))))))))))))
          refine CW.region (sd rfl (yl_move rfl rfl (sd rfl (yl_move rfl rfl (sd rfl (yl_call Try.en41 rfl (opvs_cons rfl (opvs_cons rfl opvs_nil)) (Cal.mono (c_l_eqTableS ((i_WayTo p_0 p_1 p_2).1) ((s_WayTo p_0 p_1 p_2).1) (RdS.up (OwnL.rd good_Table (OwnD.own goodO_Table good_Table h297)) good_Table) (RdS.up (OwnL.rd good_Table (OwnD.own goodO_Table good_Table (OwnD.ex goodO_Table (OwnD.ex goodO_Table (OwnD.ex goodO_Table (OwnD.mut goodO_Table (OwnD.ex goodO_Table q238 hE241) hm245 (fun k hk => by simp only [InR, or_false] at hk; omega)) hE252) hE290) hE300))) good_Table)) ?_)))))))
          rintro v310 w309 ⟨rfl, hE311⟩
          have hE311z := Ex.size hE311
          refine sd rfl (yl_not rfl rfl (sd rfl (yl_move rfl rfl (sy rfl rfl (not_t hb84) (yl_move rfl rfl (sy rfl rfl (not_t hb84) (yl_move rfl rfl (sy rfl rfl (not_t hb84) (yl_bneq Try.un4 rfl rfl rfl (sd rfl (yl_pick_f rfl rfl (not_t hb84) rfl (SeqR.done (tn (CW.cond_f rfl (not_t hb85) ?_))))))))))))))
          refine CW.skip (tn (CW.seq (CW.region (sd rfl (yl_assign rfl rfl (SeqR.done (tn (CW.seq (CW.region ?_)))))))))
          refine sd rfl (yl_move rfl rfl (sd rfl (yl_move rfl rfl ?_)))
          have q316 := OwnD.ex goodO_Table (OwnD.ex goodO_Table (OwnD.ex goodO_Table (OwnD.ex goodO_Table h246 hE252) hE290) hE300) hE311
          have hle312 := OwnD.len q316
          refine sd rfl (yl_call Try.en43 rfl (opvs_cons rfl (opvs_cons rfl opvs_nil)) (Cal.mono (Cal.args (by rw [← hle312] <;> rfl) (c_l_heldTableS ((l_markTableS ((i_WayTo p_0 p_1 p_2).1) 1).2) 1 (RdS.fix (RdS.up (OwnL.rd good_Table (OwnD.own goodO_Table good_Table q316)) good_Table)) (by first | omega | assumption | (simp only [IntKind.wrap_i64] at *; omega)))) ?_))
          rintro v319 w318 ⟨rfl, hE320⟩
          have hE320z := Ex.size hE320
          have hrf321 := rf_heldTableS ((l_markTableS ((i_WayTo p_0 p_1 p_2).1) 1).2) 1 (by first | omega | assumption | (simp only [IntKind.wrap_i64] at *; omega))
          refine sd rfl (yl_assign rfl rfl (SeqR.done (tn (CW.seq (CW.seq (CW.region (sd rfl (yl_move rfl rfl (sd rfl (yl_lss rfl rfl rfl (SeqR.done ?_)))))))))))
          refine tn (CW.cond_f rfl hb254 (CW.skip (tn (CW.seq (CW.seq (CW.region (sd rfl (yl_move rfl rfl (sd rfl (yl_move rfl rfl ?_))))))))))
          refine sd rfl (yl_neq rfl rfl rfl (SeqR.done (tn (CW.cond_f rfl (not_t hb270) (CW.skip (tn (CW.seq (CW.region (sd rfl (yl_assign rfl rfl ?_))))))))))
          refine SeqR.done (tn (CW.ret (rr rfl (.cons rfl .nil) ?_)))
          have hM322 : (l_FnExactWayTo p_0 p_1 p_2) = (true) := by simp only [l_FnExactWayTo, hb9, hb17, hb84, hb85, hb208, hb218, hb254, hb270, cond_true, cond_false, loopE_done, loopE_ret]
          rw [hM322]
          have q339 := Ex.trans (Ex.trans (Ex.trans (Ex.trans (Ex.mut (Ex.trans (Ex.mut (Ex.trans (Ex.trans (Ex.trans (Below.only (Ex.trans (Ex.trans (Ex.trans (Ex.trans (Ex.trans (Ex.trans (Ex.refl w) hE8) hE16) hE28) hE38) hE50) hE59) hO62 (by omega)) hE73) hE83) hE183) hm214 (fun k hk => by simp only [InR, or_false] at hk; omega)) hE241) hm245 (fun k hk => by simp only [InR, or_false] at hk; omega)) hE252) hE290) hE300) hE311
          exact ⟨rfl, (Ex.trans q339 hE320)⟩
         ·have hb270p := dec_f hb270
          refine CW.cond_t rfl (not_f hb270) (CW.seq (CW.region (sd rfl (yl_assign rfl rfl (SeqR.done (tn (CW.ret (tr (rr rfl (.cons rfl .nil) ?_)))))))))
          have hM341 : (l_FnExactWayTo p_0 p_1 p_2) = (false) := by simp only [l_FnExactWayTo, hb9, hb17, hb84, hb85, hb208, hb218, hb254, hb270, cond_true, cond_false, loopE_done, loopE_ret]
          rw [hM341]
          exact ⟨rfl, (Ex.trans (Ex.mut (Ex.trans (Ex.mut (Ex.trans (Ex.trans (Ex.trans (Below.only (Ex.trans (Ex.trans (Ex.trans (Ex.trans (Ex.trans (Ex.trans (Ex.refl w) hE8) hE16) hE28) hE38) hE50) hE59) hO62 (by omega)) hE73) hE83) hE183) hm214 (fun k hk => by simp only [InR, or_false] at hk; omega)) hE241) hm245 (fun k hk => by simp only [InR, or_false] at hk; omega)) hE252)⟩
      ·refine CW.cond_t rfl (not_f hb208) (CW.seq (CW.region (sd rfl (yl_assign rfl rfl (SeqR.done (tn (CW.ret (tr (rr rfl (.cons rfl .nil) ?_)))))))))
       have hM356 : (l_FnExactWayTo p_0 p_1 p_2) = (false) := by simp only [l_FnExactWayTo, hb9, hb17, hb84, hb85, hb208, cond_true, cond_false, loopE_done, loopE_ret]
       rw [hM356]
       exact ⟨rfl, (Ex.trans (Ex.trans (Ex.trans (Below.only (Ex.trans (Ex.trans (Ex.trans (Ex.trans (Ex.trans (Ex.trans (Ex.refl w) hE8) hE16) hE28) hE38) hE50) hE59) hO62 (by omega)) hE73) hE83) hE183)⟩
    ·refine CW.cond_t rfl (not_f hb85) (CW.seq (CW.region (sd rfl (yl_assign rfl rfl (SeqR.done (tn (CW.ret (tr (rr rfl (.cons rfl .nil) ?_)))))))))
     have hM367 : (l_FnExactWayTo p_0 p_1 p_2) = (false) := by simp only [l_FnExactWayTo, hb9, hb17, hb84, hb85, cond_true, cond_false, loopE_done, loopE_ret]
     rw [hM367]
     exact ⟨rfl, (Ex.trans (Ex.trans (Below.only (Ex.trans (Ex.trans (Ex.trans (Ex.trans (Ex.trans (Ex.trans (Ex.refl w) hE8) hE16) hE28) hE38) hE50) hE59) hO62 (by omega)) hE73) hE83)⟩
   ·refine sz rfl rfl (not_f hb84) (sz rfl rfl (not_f hb84) (sz rfl rfl (not_f hb84) (sd rfl (yl_pick_t rfl rfl (not_f hb84) rfl (SeqR.done (tn (CW.cond_t rfl rfl (CW.seq (CW.region ?_)))))))))
    refine sd rfl (yl_assign rfl rfl (SeqR.done (tn (CW.ret (tr (rr rfl (.cons rfl .nil) ?_))))))
    have hM377 : (l_FnExactWayTo p_0 p_1 p_2) = (false) := by simp only [l_FnExactWayTo, hb9, hb17, hb84, cond_true, cond_false, loopE_done, loopE_ret]
    rw [hM377]
    exact ⟨rfl, (Ex.trans (Ex.trans (Below.only (Ex.trans (Ex.trans (Ex.trans (Ex.trans (Ex.trans (Ex.trans (Ex.refl w) hE8) hE16) hE28) hE38) hE50) hE59) hO62 (by omega)) hE73) hE83)⟩
end Go.Proofs.Ytdbobbmagmcpnaa
