/- Read Stmt: what each call returns, part 3. -/
import Derived.Test.YtdbobbmagmcpnaaDoorReadStmtC2
set_option linter.unusedVariables false
set_option linter.unusedSimpArgs false
namespace Go.Proofs.YtdbobbmagmcpnaaDoor
open Go.RowKit Go.X
set_option maxRecDepth 100000 in
set_option maxHeartbeats 2000000 in
theorem c_i_GoodTable {A1 : Option Addr} {c1 : Nat} {A2 : Option Addr} {c2 : Nat} {w : World} (p_0 : DTable) (h1 : RdS w (Iv 0 w.heap.size) (RF e_Str) 1 A1 p_0.Cols.length c1 p_0.Cols) (h2 : RdS w (Iv 0 w.heap.size) (RF e_Idx) 3 A2 p_0.Idxs.length c2 p_0.Idxs) (o3 : ok_Table p_0) : Cal Tryd.prog 27 #[.agg #[.string (bs (p_0.Name)), .slice A1 p_0.Cols.length c1, .slice A2 p_0.Idxs.length c2]] w fun v w' => v = .bool ((i_GoodTable p_0)) ∧ Ex w w' := by
 have hol4 : p_0.Name.length ≤ 1073741824 := o3.1
 have hol5 := o3.2.1.1
 have hol6 := o3.2.2.1
 refine Cal.of (vs := [.agg #[.string (bs (p_0.Name)), .slice A1 p_0.Cols.length c1, .slice A2 p_0.Idxs.length c2]]) Tryd.func27 rfl Tryd.ntmps27 rfl (CW.seq (CW.region (sd rfl (yl_box (cs := [.string (bs (p_0.Name)), .slice A1 p_0.Cols.length c1, .slice A2 p_0.Idxs.length c2]) rfl rfl rfl ?_))))
 intro b7 w8 hs9 hz10 hB11 hE12
 refine sd rfl (yl_assign rfl rfl (SeqR.done (tn (CW.seq (CW.seq (CW.region (sd rfl (yl_fieldAddr Tryd.fd36_0 rfl rfl (sd rfl (yl_load1 Tryd.ty9 rfl rfl ((hB11.cell 0).trans rfl) (sd rfl (yl_call Tryd.en47 rfl (opvs_cons rfl (opvs_cons rfl opvs_nil)) (Cal.mono (c_i_areLetters p_0.Name 1 o3.1) ?_)))))))))))))
 rintro v14 w13 ⟨rfl, hE15⟩
 have hE15z := Ex.size hE15
 refine sd rfl (yl_not rfl rfl (sd rfl (yl_move rfl rfl (bcase (i_areLetters p_0.Name 1) (fun hb16 => ?_) (fun hb16 => ?_)))))
 ·refine sy rfl rfl (not_t hb16) (yl_fieldAddr Tryd.fd36_1 rfl rfl ?_)
  have q17 := Box.ex hB11 hE15
  refine sy rfl rfl (not_t hb16) (yl_load1 Tryd.ty22 rfl rfl ((q17.cell 1).trans rfl) (sy rfl rfl (not_t hb16) (yl_len Tryd.un22 rfl rfl (sy rfl rfl (not_t hb16) (yl_call Tryd.en48 rfl (opvs_cons rfl (opvs_cons rfl (opvs_cons rfl opvs_nil))) (Cal.mono (c_i_within (p_0.Cols.length : Int) 2 4) ?_))))))
  rintro v19 w18 ⟨rfl, hE20⟩
  have hE20z := Ex.size hE20
  refine sy rfl rfl (not_t hb16) (yl_not rfl rfl (sd rfl (yl_pick_f rfl rfl (not_t hb16) rfl (sd rfl (yl_move rfl rfl (bcase (i_within (p_0.Cols.length : Int) 2 4) (fun hb21 => ?_) (fun hb21 => ?_)))))))
  ·have hb21p := f_within hb21
   refine sy rfl rfl (not_t hb21) (yl_fieldAddr Tryd.fd36_2 rfl rfl ?_)
   have q22 := Box.ex q17 hE20
   refine sy rfl rfl (not_t hb21) (yl_load1 Tryd.ty34 rfl rfl ((q22.cell 2).trans rfl) (sy rfl rfl (not_t hb21) (yl_len Tryd.un34 rfl rfl (sy rfl rfl (not_t hb21) (yl_gtr rfl rfl rfl (sd rfl (yl_pick_f rfl rfl (not_t hb21) rfl (SeqR.done (tn (bcase (decide (3 < (p_0.Idxs.length : Int))) (fun hb23 => ?_) (fun hb23 => ?_)))))))))))
   ·have hb23p := dec_t hb23
    refine CW.cond_t rfl hb23 (CW.seq (CW.region (sd rfl (yl_assign rfl rfl (SeqR.done (tn (CW.ret (tr (rr rfl (.cons rfl .nil) ?_)))))))))
    have hM24 : (i_GoodTable p_0) = (false) := by simp only [i_GoodTable, hb16, hb21, hb23, cond_true, cond_false, loopE_done, loopE_ret]
    rw [hM24]
    exact ⟨rfl, (Ex.trans (Ex.trans (Ex.trans (Ex.refl w) hE12) hE15) hE20)⟩
   ·have hb23p := dec_f hb23
    refine CW.cond_f rfl hb23 (CW.skip (tn (CW.seq (CW.seq (CW.region (sd rfl (yl_fieldAddr Tryd.fd36_1 rfl rfl (sd rfl (yl_load1 Tryd.ty22 rfl rfl ((q22.cell 1).trans rfl) (sd rfl (yl_len Tryd.un22 rfl rfl ?_)))))))))))
    refine sd rfl (yl_move rfl rfl (SeqR.done (tn (CW.block (CW.loop (fun m29 L30 w31 => ∃ (k28 : Nat), m29 = p_0.Cols.length - k28 ∧ k28 ≤ p_0.Cols.length ∧ w18.heap.size ≤ w31.heap.size ∧ lkp L30 1 = some (.pointer (some ⟨b7, 0, none⟩)) ∧ lkp L30 25 = some (.slice A1 p_0.Cols.length c1) ∧ lkp L30 26 = some (.int .i64 ((p_0.Cols.length : Int))) ∧ lkp L30 27 = some (.int .i64 ((k28 : Int))) ∧ Box w31 b7 36 [.string (bs (p_0.Name)), .slice A1 p_0.Cols.length c1, .slice A2 p_0.Idxs.length c2] ∧ RdS w31 (Iv 0 w.heap.size) (RF e_Str) 1 A1 p_0.Cols.length c1 p_0.Cols ∧ RdS w31 (Iv 0 w.heap.size) (RF e_Idx) 3 A2 p_0.Idxs.length c2 p_0.Idxs ∧ Ex w w31 ∧ loopM (B_i_GoodTable_0 p_0) (p_0.Cols.length - k28) k28 () = loopM (B_i_GoodTable_0 p_0) (p_0.Cols.length - 0) 0 ()) (p_0.Cols.length - 0) ?_ ?_)))))
    ·exact ⟨0, rfl, (by omega), Nat.le_refl _, rfl, rfl, rfl, rfl, q22, (RdS.ex good_Str (RdS.ex good_Str (RdS.ex good_Str h1 hE12) hE15) hE20), (RdS.ex good_Idx (RdS.ex good_Idx (RdS.ex good_Idx h2 hE12) hE15) hE20), (Ex.trans (Ex.trans (Ex.trans (Ex.refl w) hE12) hE15) hE20), rfl⟩
    ·rintro m41 L42 w43 ⟨k28, rfl, hk44, hsz46, hl47, hl48, hl49, hl50, hf51, hf52, hf53, hf54, hI45⟩
     refine CW.sub (Sub.cons hl47 (Sub.cons hl48 (Sub.cons hl49 (Sub.cons hl50 (Sub.nil _))))) ?_
     have hf51z := Box.lt hf51
     have hf54z := Ex.size hf54
     have hbg55 := RdS.big hf52
     rcases Nat.lt_or_ge k28 p_0.Cols.length with hlt56 | hlt56
     ·refine CW.seq (CW.region (sd rfl (yl_lss rfl rfl rfl (SeqR.done (tn (CW.seq (CW.cond_t rfl (lt_t hlt56) (CW.skip (tn ?_)))))))))
      refine CW.seq (CW.block (CW.seq (CW.region (sd rfl (yl_move rfl rfl ?_)))))
      obtain ⟨eb57, eo57, ec57, eA57, eS57, ebl57, el57, eR57, eC57⟩ := RdS.atD hf52 d_Str (i := k28) (by first | omega | assumption)
      obtain rfl := eR57
      have eC57 : Cells w43 eb57 (eo57 + k28 * 1) [.string (bs ((p_0.Cols.getD k28 d_Str)))] := eC57
      refine sd rfl (yl_indexAddrN Tryd.un22 Tryd.ty9 rfl rfl rfl eA57 (by first | omega | assumption | (simp only [IntKind.wrap_i64] at *; omega)) (sd rfl (yl_load1 Tryd.ty9 rfl rfl (eC57 0 _ rfl) (sd rfl (yl_assign rfl rfl (sd rfl (yl_assign rfl rfl (SeqR.done (tn (CW.seq (CW.region (sd rfl (yl_move rfl rfl ?_)))))))))))))
      refine sd rfl (yl_call Tryd.en47 rfl (opvs_cons rfl (opvs_cons rfl opvs_nil)) (Cal.mono (c_i_areLetters (p_0.Cols.getD k28 d_Str) 3 (okL.getD o3.2.1 ok_d_Str _)) ?_))
      rintro v59 w58 ⟨rfl, hE60⟩
      have hE60z := Ex.size hE60
      refine sd rfl (yl_not rfl rfl (sd rfl (yl_move rfl rfl (bcase (i_areLetters (p_0.Cols.getD k28 d_Str) 3) (fun hb61 => ?_) (fun hb61 => ?_)))))
      ·refine sy rfl rfl (not_t hb61) (yl_fieldAddr Tryd.fd36_1 rfl rfl ?_)
       have q62 := Box.ex hf51 hE60
       refine sy rfl rfl (not_t hb61) (yl_load1 Tryd.ty22 rfl rfl ((q62.cell 1).trans rfl) (sy rfl rfl (not_t hb61) (yl_move rfl rfl ?_)))
       have q63 := RdS.ex good_Str hf52 hE60
       obtain ⟨A64, c65, he68, h67⟩ := RdS.sl (RdS.drop (RdS.take q63 (k := k28) (by omega)) (k := 0) (by omega))
       have hrc69 := (q63).2.1
       refine sy rfl rfl (not_t hb61) (yl_sliceR (kl := .i64) (l := 0) (h := k28) Tryd.un22 Tryd.ty9 rfl rfl (.inl ⟨rfl, rfl⟩) (.inr ⟨_, rfl, rfl⟩) (by omega) (by omega) he68 (sy rfl rfl (not_t hb61) (yl_move rfl rfl (sy rfl rfl (not_t hb61) (yl_call Tryd.en49 rfl (opvs_cons rfl (opvs_cons rfl opvs_nil)) (Cal.mono (c_g_slices_Contains_string (p_0.Cols.take k28) (p_0.Cols.getD k28 d_Str) (RdS.up h67 good_Str) (okL.take o3.2.1 _) (okL.getD o3.2.1 ok_d_Str _)) ?_))))))
       rintro v71 w70 ⟨rfl, hE72⟩
       have hE72z := Ex.size hE72
       refine sd rfl (yl_pick_f rfl rfl (not_t hb61) rfl (SeqR.done (tn (bcase (g_slices_Contains_string (p_0.Cols.take k28) (p_0.Cols.getD k28 d_Str)) (fun hb73 => ?_) (fun hb73 => ?_)))))
       ·refine CW.cond_t rfl hb73 (CW.seq (CW.region (sd rfl (yl_assign rfl rfl (SeqR.done (tn (CW.ret (br (tr ?_)))))))))
        refine tr ?_
        have hB75 : B_i_GoodTable_0 p_0 k28 () = .ret false := by simp only [B_i_GoodTable_0, hb16, hb21, hb23, hb61, hb73, cond_true, cond_false, loopE_done, loopE_ret]
        have hL74 : loopM (B_i_GoodTable_0 p_0) (p_0.Cols.length - 0) 0 () = .ret false := hI45.symm.trans (loopM.ret hlt56 hB75)
        refine br (tr (rr rfl (.cons rfl .nil) ?_))
        have hM76 : (i_GoodTable p_0) = (false) := by simp only [i_GoodTable, hb16, hb21, hb23, hb61, hb73, hL74, cond_true, cond_false, loopE_done, loopE_ret]
        rw [hM76]
        exact ⟨rfl, (Ex.trans (Ex.trans hf54 hE60) hE72)⟩
       ·refine CW.cond_f rfl hb73 (CW.skip (bn (tn (CW.region (sd rfl (yl_inc rfl rfl rfl (by omega) (sd rfl (yl_move rfl rfl (SeqR.done (tn ?_))))))))))
        have hB79 : B_i_GoodTable_0 p_0 k28 () = .cont () := by simp only [B_i_GoodTable_0, hb16, hb21, hb23, hb61, hb73, cond_true, cond_false, loopE_done, loopE_ret]
        exact ⟨p_0.Cols.length - (k28 + 1), by omega, k28 + 1, rfl, hlt56, (by omega), rfl, rfl, rfl, rfl, (Box.ex q62 hE72), (RdS.ex good_Str q63 hE72), (RdS.ex good_Idx (RdS.ex good_Idx hf53 hE60) hE72), (Ex.trans (Ex.trans hf54 hE60) hE72), (loopM.cont hlt56 hB79).symm.trans hI45⟩
      ·refine sz rfl rfl (not_f hb61) (sz rfl rfl (not_f hb61) (sz rfl rfl (not_f hb61) (sz rfl rfl (not_f hb61) (sz rfl rfl (not_f hb61) (sz rfl rfl (not_f hb61) (sd rfl (yl_pick_t rfl rfl (not_f hb61) rfl (SeqR.done (tn ?_)))))))))
       refine CW.cond_t rfl rfl (CW.seq (CW.region (sd rfl (yl_assign rfl rfl (SeqR.done (tn (CW.ret (br (tr ?_)))))))))
       refine tr ?_
       have hB87 : B_i_GoodTable_0 p_0 k28 () = .ret false := by simp only [B_i_GoodTable_0, hb16, hb21, hb23, hb61, cond_true, cond_false, loopE_done, loopE_ret]
       have hL86 : loopM (B_i_GoodTable_0 p_0) (p_0.Cols.length - 0) 0 () = .ret false := hI45.symm.trans (loopM.ret hlt56 hB87)
       refine br (tr (rr rfl (.cons rfl .nil) ?_))
       have hM88 : (i_GoodTable p_0) = (false) := by simp only [i_GoodTable, hb16, hb21, hb23, hb61, hL86, cond_true, cond_false, loopE_done, loopE_ret]
       rw [hM88]
       exact ⟨rfl, (Ex.trans hf54 hE60)⟩
     ·refine CW.seq (CW.region (sd rfl (yl_lss rfl rfl rfl (SeqR.done (tn (CW.seq (CW.cond_f rfl (lt_f hlt56) (CW.exit (tx ?_)))))))))
      refine tx ?_
      have hL90 : loopM (B_i_GoodTable_0 p_0) (p_0.Cols.length - 0) 0 () = .done () := hI45.symm.trans (loopM.stop hlt56)
      refine bx (tn (CW.seq (CW.seq (CW.region (sd rfl (yl_fieldAddr Tryd.fd36_2 rfl rfl (sd rfl (yl_load1 Tryd.ty34 rfl rfl ((hf51.cell 2).trans rfl) (sd rfl (yl_len Tryd.un34 rfl rfl (sd rfl (yl_move rfl rfl ?_))))))))))))
      refine SeqR.done (tn (CW.block (CW.loop (fun m129 L130 w131 => ∃ (k91 : Nat), m129 = p_0.Idxs.length - k91 ∧ k91 ≤ p_0.Idxs.length ∧ w43.heap.size ≤ w131.heap.size ∧ lkp L130 1 = some (.pointer (some ⟨b7, 0, none⟩)) ∧ lkp L130 45 = some (.slice A2 p_0.Idxs.length c2) ∧ lkp L130 46 = some (.int .i64 ((p_0.Idxs.length : Int))) ∧ lkp L130 47 = some (.int .i64 ((k91 : Int))) ∧ Box w131 b7 36 [.string (bs (p_0.Name)), .slice A1 p_0.Cols.length c1, .slice A2 p_0.Idxs.length c2] ∧ RdS w131 (Iv 0 w.heap.size) (RF e_Str) 1 A1 p_0.Cols.length c1 p_0.Cols ∧ RdS w131 (Iv 0 w.heap.size) (RF e_Idx) 3 A2 p_0.Idxs.length c2 p_0.Idxs ∧ Ex w w131 ∧ loopM (B_i_GoodTable_1 p_0) (p_0.Idxs.length - k91) k91 () = loopM (B_i_GoodTable_1 p_0) (p_0.Idxs.length - 0) 0 ()) (p_0.Idxs.length - 0) ?_ ?_)))
      ·exact ⟨0, rfl, (by omega), Nat.le_refl _, rfl, rfl, rfl, rfl, hf51, hf52, hf53, hf54, rfl⟩
      ·rintro m132 L133 w134 ⟨k91, rfl, hk135, hsz137, hl138, hl139, hl140, hl141, hf142, hf143, hf144, hf145, hI136⟩
       refine CW.sub (Sub.cons hl138 (Sub.cons hl139 (Sub.cons hl140 (Sub.cons hl141 (Sub.nil _))))) ?_
       have hf142z := Box.lt hf142
       have hf145z := Ex.size hf145
       have hbg146 := RdS.big hf144
       rcases Nat.lt_or_ge k91 p_0.Idxs.length with hlt147 | hlt147
       ·refine CW.seq (CW.region (sd rfl (yl_lss rfl rfl rfl (SeqR.done (tn (CW.seq (CW.cond_t rfl (lt_t hlt147) (CW.skip (tn ?_)))))))))
        refine CW.seq (CW.block (CW.seq (CW.region (sd rfl (yl_move rfl rfl ?_)))))
        obtain ⟨eb148, eo148, ec148, eA148, eS148, ebl148, el148, eR148, eC148⟩ := RdS.atD hf144 d_Idx (i := k91) (by first | omega | assumption)
        obtain rfl := eR148
        have eC148 : Cells w134 eb148 (eo148 + k91 * 3) [.string (bs ((p_0.Idxs.getD k91 d_Idx).Name)), .int .i64 ((p_0.Idxs.getD k91 d_Idx).Col), .int .i64 ((p_0.Idxs.getD k91 d_Idx).Stage)] := eC148
        refine sd rfl (yl_indexAddrN Tryd.un34 Tryd.ty74 rfl rfl rfl eA148 (by first | omega | assumption | (simp only [IntKind.wrap_i64] at *; omega)) (sd rfl (yl_loadN (cs := [.string (bs ((p_0.Idxs.getD k91 d_Idx).Name)), .int .i64 ((p_0.Idxs.getD k91 d_Idx).Col), .int .i64 ((p_0.Idxs.getD k91 d_Idx).Stage)]) Tryd.ty74 rfl rfl eC148 rfl (sd rfl (yl_alloc Tryd.ty74 (cs := [.string (bs (([] : Str))), .int .i64 (0), .int .i64 (0)]) rfl rfl ?_)))))
        intro b149 w150 hs151 hz152 hB153 hE154
        refine sd rfl (yl_assign rfl rfl (SeqR.u rfl rfl (yl_store (vs := [.string (bs ((p_0.Idxs.getD k91 d_Idx).Name)), .int .i64 ((p_0.Idxs.getD k91 d_Idx).Col), .int .i64 ((p_0.Idxs.getD k91 d_Idx).Stage)]) Tryd.ty74 rfl rfl rfl rfl rfl rfl hB153 (Nat.le_of_ble_eq_true rfl) ?_)))
        intro w155 hB156 hO157
        have hB156 : Box w155 b149 74 [.string (bs ((p_0.Idxs.getD k91 d_Idx).Name)), .int .i64 ((p_0.Idxs.getD k91 d_Idx).Col), .int .i64 ((p_0.Idxs.getD k91 d_Idx).Stage)] := hB156
        have hO157z := hO157.size
        refine SeqR.done (tn (CW.seq (bcase (i_areLetters ((p_0.Idxs.getD k91 d_Idx).Name) 1) (fun hb159 => ?_) (fun hb159 => ?_))))
        ·refine bcase (i_within ((p_0.Idxs.getD k91 d_Idx).Col) 1 (IntKind.wrap .i64 ((p_0.Cols.length : Int) - 1))) (fun hb164 => ?_) (fun hb164 => ?_)
         ·have hb164p := f_within hb164
          refine bcase (i_isStage ((p_0.Idxs.getD k91 d_Idx).Stage)) (fun hb170 => ?_) (fun hb170 => ?_)
          ·have hb170p := f_i_isStage hb170
           refine bcase (decide (0 < (k91 : Int))) (fun hb176 => ?_) (fun hb176 => ?_)
           ·have hb176p := dec_t hb176
            have q179 := Box.only (Box.ex hf142 hE154) hO157 (by omega)
            have q183 := RdS.only good_Idx (RdS.ex good_Idx hf144 hE154) hO157 (by simp only [Iv]; omega)
            obtain ⟨eb184, eo184, ec184, eA184, eS184, ebl184, el184, eR184, eC184⟩ := RdS.atD q183 d_Idx (i := (IntKind.wrap .i64 ((k91 : Int) - 1)).toNat) (by first | omega | assumption | (simp only [IntKind.wrap_i64] at *; omega))
            obtain rfl := eR184
            have eC184 : Cells w155 eb184 (eo184 + ((IntKind.wrap .i64 ((k91 : Int) - 1)).toNat) * 3) [.string (bs ((p_0.Idxs.getD ((IntKind.wrap .i64 ((k91 : Int) - 1)).toNat) d_Idx).Name)), .int .i64 ((p_0.Idxs.getD ((IntKind.wrap .i64 ((k91 : Int) - 1)).toNat) d_Idx).Col), .int .i64 ((p_0.Idxs.getD ((IntKind.wrap .i64 ((k91 : Int) - 1)).toNat) d_Idx).Stage)] := eC184
            refine CW.drawsI 36 (vgetI [DetI (.pointer (some ⟨b149, 0 + 0, none⟩)), DetI (.string (bs ((p_0.Idxs.getD k91 d_Idx).Name))), DetI (.bool ((i_areLetters ((p_0.Idxs.getD k91 d_Idx).Name) 1))), DetI (.bool (!(i_areLetters ((p_0.Idxs.getD k91 d_Idx).Name) 1))), DetI (.bool (!(i_areLetters ((p_0.Idxs.getD k91 d_Idx).Name) 1))), DetI (.pointer (some ⟨b149, 0 + 1, none⟩)), DetI (.int .i64 ((p_0.Idxs.getD k91 d_Idx).Col)), DetI (.pointer (some ⟨b7, 0 + 1, none⟩)), DetI (.slice A1 p_0.Cols.length c1), DetI (.int .i64 ((p_0.Cols.length : Int))), DetI (.int .i64 (IntKind.wrap .i64 ((p_0.Cols.length : Int) - 1))), DetI (.bool ((i_within ((p_0.Idxs.getD k91 d_Idx).Col) 1 (IntKind.wrap .i64 ((p_0.Cols.length : Int) - 1))))), DetI (.bool (!(i_within ((p_0.Idxs.getD k91 d_Idx).Col) 1 (IntKind.wrap .i64 ((p_0.Cols.length : Int) - 1))))), DetI (.bool (!(i_within ((p_0.Idxs.getD k91 d_Idx).Col) 1 (IntKind.wrap .i64 ((p_0.Cols.length : Int) - 1))))), DetI (.bool (!(i_within ((p_0.Idxs.getD k91 d_Idx).Col) 1 (IntKind.wrap .i64 ((p_0.Cols.length : Int) - 1))))), DetI (.pointer (some ⟨b149, 0 + 2, none⟩)), DetI (.int .i64 ((p_0.Idxs.getD k91 d_Idx).Stage)), DetI (.bool ((i_isStage ((p_0.Idxs.getD k91 d_Idx).Stage)))), DetI (.bool (!(i_isStage ((p_0.Idxs.getD k91 d_Idx).Stage)))), DetI (.bool (!(i_isStage ((p_0.Idxs.getD k91 d_Idx).Stage)))), DetI (.bool (!(i_isStage ((p_0.Idxs.getD k91 d_Idx).Stage)))), DetI (.int .i64 ((k91 : Int))), DetI (.bool (decide (0 < (k91 : Int)))), DetI (.bool (decide (0 < (k91 : Int)))), DetI (.pointer (some ⟨b149, 0 + 0, none⟩)), DetI (.string (bs ((p_0.Idxs.getD k91 d_Idx).Name))), DetI (.pointer (some ⟨b7, 0 + 2, none⟩)), DetI (.slice A2 p_0.Idxs.length c2), DetI (.int .i64 ((k91 : Int))), DetI (.int .i64 (IntKind.wrap .i64 ((k91 : Int) - 1))), DetI (.pointer (some ⟨eb184, eo184 + ((IntKind.wrap .i64 ((k91 : Int) - 1)).toNat) * 3, none⟩)), DetI (.pointer (some ⟨eb184, eo184 + ((IntKind.wrap .i64 ((k91 : Int) - 1)).toNat) * 3 + 0, none⟩)), DetI (.string (bs ((p_0.Idxs.getD ((IntKind.wrap .i64 ((k91 : Int) - 1)).toNat) d_Idx).Name))), DetI (.bool (sLe ((p_0.Idxs.getD k91 d_Idx).Name) ((p_0.Idxs.getD ((IntKind.wrap .i64 ((k91 : Int) - 1)).toNat) d_Idx).Name))), DetI (.bool (sLe ((p_0.Idxs.getD k91 d_Idx).Name) ((p_0.Idxs.getD ((IntKind.wrap .i64 ((k91 : Int) - 1)).toNat) d_Idx).Name))), DetI (.bool (sLe ((p_0.Idxs.getD k91 d_Idx).Name) ((p_0.Idxs.getD ((IntKind.wrap .i64 ((k91 : Int) - 1)).toNat) d_Idx).Name)))]) Tryd.follows rfl rfl rfl rfl rfl rfl (vgetI_stable ⟨StableI.det _, StableI.det _, StableI.det _, StableI.det _, StableI.det _, StableI.det _, StableI.det _, StableI.det _, StableI.det _, StableI.det _, StableI.det _, StableI.det _, StableI.det _, StableI.det _, StableI.det _, StableI.det _, StableI.det _, StableI.det _, StableI.det _, StableI.det _, StableI.det _, StableI.det _, StableI.det _, StableI.det _, StableI.det _, StableI.det _, StableI.det _, StableI.det _, StableI.det _, StableI.det _, StableI.det _, StableI.det _, StableI.det _, StableI.det _, StableI.det _, StableI.det _, trivial⟩) ⟨?_, ?_, ?_, ?_, ?_, ?_, ?_, ?_, ?_, ?_, ?_, ?_, ?_, ?_, ?_, ?_, ?_, ?_, ?_, ?_, ?_, ?_, ?_, ?_, ?_, ?_, ?_, ?_, ?_, ?_, ?_, ?_, ?_, ?_, ?_, ?_, trivial⟩ ?_
            ·exact fun _ _ h => os rfl ((yl_fieldAddr Tryd.fd74_0 rfl (h.old 6 _ rfl rfl) kI))
            ·exact fun _ _ h => os rfl ((yl_load1 Tryd.ty9 rfl (h.dt 0 52 rfl rfl rfl) (((Box.ex hB156 h.ex).cell 0).trans rfl) kI))
            ·intro L196 w197 hi198
             refine OpR.op' rfl (yl_call Tryd.en47 rfl (opvs_cons (hi198.dt 1 53 rfl rfl rfl) (opvs_cons rfl opvs_nil)) (Cal.mono (c_i_areLetters ((p_0.Idxs.getD k91 d_Idx).Name) 1 (okL.getD o3.2.2 ok_d_Idx _)) ?_))
             rintro v202 w201 ⟨rfl, hE203⟩
             exact ⟨rfl, hE203⟩
            ·exact fun _ _ h => os rfl ((yl_not rfl (h.dt 2 54 rfl rfl rfl) kI))
            ·exact fun _ _ h => os rfl ((yl_move rfl (h.dt 3 55 rfl rfl rfl) kI))
            ·exact fun _ _ h => OpR.want rfl rfl (h.dt 4 56 rfl rfl rfl) (not_t hb159) (Yl.sameI (yl_fieldAddr Tryd.fd74_1 rfl (h.old 6 _ rfl rfl) kI))
            ·exact fun _ _ h => OpR.want rfl rfl (h.dt 4 56 rfl rfl rfl) (not_t hb159) (Yl.sameI (yl_load1 Tryd.ty3 rfl (h.dt 5 57 rfl rfl rfl) (((Box.ex hB156 h.ex).cell 1).trans rfl) kI))
            ·exact fun _ _ h => OpR.want rfl rfl (h.dt 4 56 rfl rfl rfl) (not_t hb159) (Yl.sameI (yl_fieldAddr Tryd.fd36_1 rfl (h.old 1 _ rfl rfl) kI))
            ·exact fun _ _ h => OpR.want rfl rfl (h.dt 4 56 rfl rfl rfl) (not_t hb159) (Yl.sameI (yl_load1 Tryd.ty22 rfl (h.dt 7 59 rfl rfl rfl) (((Box.ex q179 h.ex).cell 1).trans rfl) kI))
            ·exact fun _ _ h => OpR.want rfl rfl (h.dt 4 56 rfl rfl rfl) (not_t hb159) (Yl.sameI (yl_len Tryd.un22 rfl (h.dt 8 60 rfl rfl rfl) kI))
            ·exact fun _ _ h => OpR.want rfl rfl (h.dt 4 56 rfl rfl rfl) (not_t hb159) (Yl.sameI (yl_sub rfl (h.dt 9 61 rfl rfl rfl) rfl kI))
            ·intro L252 w253 hi254
             refine OpR.want rfl rfl (hi254.dt 4 56 rfl rfl rfl) (not_t hb159) (yl_call Tryd.en48 rfl (opvs_cons (hi254.dt 6 58 rfl rfl rfl) (opvs_cons rfl (opvs_cons (hi254.dt 10 62 rfl rfl rfl) opvs_nil))) (Cal.mono (c_i_within ((p_0.Idxs.getD k91 d_Idx).Col) 1 (IntKind.wrap .i64 ((p_0.Cols.length : Int) - 1))) ?_))
             rintro v260 w259 ⟨rfl, hE261⟩
             exact ⟨rfl, hE261⟩
            ·exact fun _ _ h => OpR.want rfl rfl (h.dt 4 56 rfl rfl rfl) (not_t hb159) (Yl.sameI (yl_not rfl (h.dt 11 63 rfl rfl rfl) kI))
            ·exact fun _ _ h => os rfl ((yl_pick_f rfl (h.dt 4 56 rfl rfl rfl) (not_t hb159) (h.dt 12 64 rfl rfl rfl) kI))
            ·exact fun _ _ h => os rfl ((yl_move rfl (h.dt 13 65 rfl rfl rfl) kI))
            ·exact fun _ _ h => OpR.want rfl rfl (h.dt 14 66 rfl rfl rfl) (not_t hb164) (Yl.sameI (yl_fieldAddr Tryd.fd74_2 rfl (h.old 6 _ rfl rfl) kI))
            ·exact fun _ _ h => OpR.want rfl rfl (h.dt 14 66 rfl rfl rfl) (not_t hb164) (Yl.sameI (yl_load1 Tryd.ty3 rfl (h.dt 15 67 rfl rfl rfl) (((Box.ex hB156 h.ex).cell 2).trans rfl) kI))
            ·intro L292 w293 hi294
             refine OpR.want rfl rfl (hi294.dt 14 66 rfl rfl rfl) (not_t hb164) (yl_call Tryd.en50 rfl (opvs_cons (hi294.dt 16 68 rfl rfl rfl) opvs_nil) (Cal.mono (c_i_isStage ((p_0.Idxs.getD k91 d_Idx).Stage)) ?_))
             rintro v299 w298 ⟨rfl, hE300⟩
             exact ⟨rfl, hE300⟩
            ·exact fun _ _ h => OpR.want rfl rfl (h.dt 14 66 rfl rfl rfl) (not_t hb164) (Yl.sameI (yl_not rfl (h.dt 17 69 rfl rfl rfl) kI))
            ·exact fun _ _ h => os rfl ((yl_pick_f rfl (h.dt 14 66 rfl rfl rfl) (not_t hb164) (h.dt 18 70 rfl rfl rfl) kI))
            ·exact fun _ _ h => os rfl ((yl_move rfl (h.dt 19 71 rfl rfl rfl) kI))
            ·exact fun _ _ h => OpR.want rfl rfl (h.dt 20 72 rfl rfl rfl) (not_t hb170) (Yl.sameI (yl_move rfl (h.old 5 _ rfl rfl) kI))
            ·exact fun _ _ h => OpR.want rfl rfl (h.dt 20 72 rfl rfl rfl) (not_t hb170) (Yl.sameI (yl_gtr rfl (h.dt 21 73 rfl rfl rfl) rfl kI))
            ·exact fun _ _ h => OpR.want rfl rfl (h.dt 20 72 rfl rfl rfl) (not_t hb170) (Yl.sameI (yl_move rfl (h.dt 22 74 rfl rfl rfl) kI))
            ·exact fun _ _ h => OpR.want rfl rfl (h.dt 23 75 rfl rfl rfl) hb176 (Yl.sameI (yl_fieldAddr Tryd.fd74_0 rfl (h.old 6 _ rfl rfl) kI))
            ·exact fun _ _ h => OpR.want rfl rfl (h.dt 23 75 rfl rfl rfl) hb176 (Yl.sameI (yl_load1 Tryd.ty9 rfl (h.dt 24 76 rfl rfl rfl) (((Box.ex hB156 h.ex).cell 0).trans rfl) kI))
            ·exact fun _ _ h => OpR.want rfl rfl (h.dt 23 75 rfl rfl rfl) hb176 (Yl.sameI (yl_fieldAddr Tryd.fd36_2 rfl (h.old 1 _ rfl rfl) kI))
            ·exact fun _ _ h => OpR.want rfl rfl (h.dt 23 75 rfl rfl rfl) hb176 (Yl.sameI (yl_load1 Tryd.ty34 rfl (h.dt 26 78 rfl rfl rfl) (((Box.ex q179 h.ex).cell 2).trans rfl) kI))
            ·exact fun _ _ h => OpR.want rfl rfl (h.dt 23 75 rfl rfl rfl) hb176 (Yl.sameI (yl_move rfl (h.old 5 _ rfl rfl) kI))
            ·exact fun _ _ h => OpR.want rfl rfl (h.dt 23 75 rfl rfl rfl) hb176 (Yl.sameI (yl_sub rfl (h.dt 28 80 rfl rfl rfl) rfl kI))
            ·intro L374 w375 hi376
             have hE377 := hi376.ex
             have hE377z := Ex.size hE377
             exact OpR.want rfl rfl (hi376.dt 23 75 rfl rfl rfl) hb176 (Yl.sameI (yl_indexAddr Tryd.un34 Tryd.ty74 rfl (hi376.dt 27 79 rfl rfl rfl) (hi376.dt 29 81 rfl rfl rfl) eA184 (by first | omega | assumption | (simp only [IntKind.wrap_i64] at *; omega)) (by first | omega | assumption | (simp only [IntKind.wrap_i64] at *; omega)) kI))
            ·exact fun _ _ h => OpR.want rfl rfl (h.dt 23 75 rfl rfl rfl) hb176 (Yl.sameI (yl_fieldAddr Tryd.fd74_0 rfl (h.dt 30 82 rfl rfl rfl) kI))
            ·exact fun _ _ h => OpR.want rfl rfl (h.dt 23 75 rfl rfl rfl) hb176 (Yl.sameI (yl_load1 Tryd.ty9 rfl (h.dt 31 83 rfl rfl rfl) ((Cells.ex eC184 h.ex) 0 _ rfl) kI))
            ·exact fun _ _ h => OpR.want rfl rfl (h.dt 23 75 rfl rfl rfl) hb176 (Yl.sameI (yl_sleq (a := ((p_0.Idxs.getD k91 d_Idx).Name)) (b := ((p_0.Idxs.getD ((IntKind.wrap .i64 ((k91 : Int) - 1)).toNat) d_Idx).Name)) rfl (h.dt 25 77 rfl rfl rfl) (h.dt 32 84 rfl rfl rfl) kI))
            ·exact fun _ _ h => OpR.want rfl rfl (h.dt 20 72 rfl rfl rfl) (not_t hb170) (Yl.sameI (yl_pick_t rfl (h.dt 23 75 rfl rfl rfl) hb176 (h.dt 33 85 rfl rfl rfl) kI))
            ·exact fun _ _ h => os rfl ((yl_pick_f rfl (h.dt 20 72 rfl rfl rfl) (not_t hb170) (h.dt 34 86 rfl rfl rfl) kI))
            ·intro fl417 fh418 L414 w415 hp416
             have hE419 := hp416.ex
             have hE419z := Ex.size hE419
             refine SeqR.done (tn (CW.sub (Sub.cons (d := 1) (hp416.old 1 _ rfl rfl) (Sub.cons (d := 45) (hp416.old 45 _ rfl rfl) (Sub.cons (d := 46) (hp416.old 46 _ rfl rfl) (Sub.cons (d := 47) (hp416.old 47 _ rfl rfl) (Sub.cons (d := 57) (hp416.nt 5 57 rfl rfl rfl) (Sub.cons (d := 58) (hp416.nt 6 58 rfl rfl rfl) (Sub.cons (d := 59) (hp416.nt 7 59 rfl rfl rfl) (Sub.cons (d := 60) (hp416.nt 8 60 rfl rfl rfl) (Sub.cons (d := 61) (hp416.nt 9 61 rfl rfl rfl) (Sub.cons (d := 62) (hp416.nt 10 62 rfl rfl rfl) (Sub.cons (d := 63) (hp416.nt 11 63 rfl rfl rfl) (Sub.cons (d := 64) (hp416.nt 12 64 rfl rfl rfl) (Sub.cons (d := 67) (hp416.nt 15 67 rfl rfl rfl) (Sub.cons (d := 68) (hp416.nt 16 68 rfl rfl rfl) (Sub.cons (d := 69) (hp416.nt 17 69 rfl rfl rfl) (Sub.cons (d := 70) (hp416.nt 18 70 rfl rfl rfl) (Sub.cons (d := 73) (hp416.nt 21 73 rfl rfl rfl) (Sub.cons (d := 74) (hp416.nt 22 74 rfl rfl rfl) (Sub.cons (d := 75) (hp416.nt 23 75 rfl rfl rfl) (Sub.cons (d := 76) (hp416.nt 24 76 rfl rfl rfl) (Sub.cons (d := 77) (hp416.nt 25 77 rfl rfl rfl) (Sub.cons (d := 78) (hp416.nt 26 78 rfl rfl rfl) (Sub.cons (d := 79) (hp416.nt 27 79 rfl rfl rfl) (Sub.cons (d := 80) (hp416.nt 28 80 rfl rfl rfl) (Sub.cons (d := 81) (hp416.nt 29 81 rfl rfl rfl) (Sub.cons (d := 82) (hp416.nt 30 82 rfl rfl rfl) (Sub.cons (d := 83) (hp416.nt 31 83 rfl rfl rfl) (Sub.cons (d := 84) (hp416.nt 32 84 rfl rfl rfl) (Sub.cons (d := 85) (hp416.nt 33 85 rfl rfl rfl) (Sub.cons (d := 86) (hp416.nt 34 86 rfl rfl rfl) (Sub.cons (d := 87) (hp416.nt 35 87 rfl rfl rfl) (Sub.nil _)))))))))))))))))))))))))))))))) ?_))
             refine bcase (sLe ((p_0.Idxs.getD k91 d_Idx).Name) ((p_0.Idxs.getD ((IntKind.wrap .i64 ((k91 : Int) - 1)).toNat) d_Idx).Name)) (fun hb451 => ?_) (fun hb451 => ?_)
             ·refine CW.cond_t rfl hb451 (CW.seq (CW.region (sd rfl (yl_assign rfl rfl (SeqR.done (tn (CW.ret (br (tr ?_)))))))))
              refine tr ?_
              have hB453 : B_i_GoodTable_1 p_0 k91 () = .ret false := by simp only [B_i_GoodTable_1, hb16, hb21, hb23, hb159, hb164, hb170, hb176, hb451, hL90, cond_true, cond_false, loopE_done, loopE_ret]
              have hL452 : loopM (B_i_GoodTable_1 p_0) (p_0.Idxs.length - 0) 0 () = .ret false := hI136.symm.trans (loopM.ret hlt147 hB453)
              refine br (tr (rr rfl (.cons rfl .nil) ?_))
              have hM454 : (i_GoodTable p_0) = (false) := by simp only [i_GoodTable, hb16, hb21, hb23, hb159, hb164, hb170, hb176, hb451, hL90, hL452, cond_true, cond_false, loopE_done, loopE_ret]
              rw [hM454]
              exact ⟨rfl, (Ex.trans (Below.only (Ex.trans hf145 hE154) hO157 (by omega)) hE419)⟩
             ·refine CW.cond_f rfl hb451 (CW.skip (bn (tn (CW.region (sd rfl (yl_inc rfl rfl rfl (by omega) (sd rfl (yl_move rfl rfl (SeqR.done (tn ?_))))))))))
              have hB458 : B_i_GoodTable_1 p_0 k91 () = .cont () := by simp only [B_i_GoodTable_1, hb16, hb21, hb23, hb159, hb164, hb170, hb176, hb451, hL90, cond_true, cond_false, loopE_done, loopE_ret]
              exact ⟨p_0.Idxs.length - (k91 + 1), by omega, k91 + 1, rfl, hlt147, (by omega), rfl, rfl, rfl, rfl, (Box.ex q179 hE419), (RdS.ex good_Str (RdS.only good_Str (RdS.ex good_Str hf143 hE154) hO157 (by simp only [Iv]; omega)) hE419), (RdS.ex good_Idx q183 hE419), (Ex.trans (Below.only (Ex.trans hf145 hE154) hO157 (by omega)) hE419), (loopM.cont hlt147 hB458).symm.trans hI136⟩
           ·have hb176p := dec_f hb176
            have q469 := Box.only (Box.ex hf142 hE154) hO157 (by omega)
            refine CW.drawsI 36 (vgetI [DetI (.pointer (some ⟨b149, 0 + 0, none⟩)), DetI (.string (bs ((p_0.Idxs.getD k91 d_Idx).Name))), DetI (.bool ((i_areLetters ((p_0.Idxs.getD k91 d_Idx).Name) 1))), DetI (.bool (!(i_areLetters ((p_0.Idxs.getD k91 d_Idx).Name) 1))), DetI (.bool (!(i_areLetters ((p_0.Idxs.getD k91 d_Idx).Name) 1))), DetI (.pointer (some ⟨b149, 0 + 1, none⟩)), DetI (.int .i64 ((p_0.Idxs.getD k91 d_Idx).Col)), DetI (.pointer (some ⟨b7, 0 + 1, none⟩)), DetI (.slice A1 p_0.Cols.length c1), DetI (.int .i64 ((p_0.Cols.length : Int))), DetI (.int .i64 (IntKind.wrap .i64 ((p_0.Cols.length : Int) - 1))), DetI (.bool ((i_within ((p_0.Idxs.getD k91 d_Idx).Col) 1 (IntKind.wrap .i64 ((p_0.Cols.length : Int) - 1))))), DetI (.bool (!(i_within ((p_0.Idxs.getD k91 d_Idx).Col) 1 (IntKind.wrap .i64 ((p_0.Cols.length : Int) - 1))))), DetI (.bool (!(i_within ((p_0.Idxs.getD k91 d_Idx).Col) 1 (IntKind.wrap .i64 ((p_0.Cols.length : Int) - 1))))), DetI (.bool (!(i_within ((p_0.Idxs.getD k91 d_Idx).Col) 1 (IntKind.wrap .i64 ((p_0.Cols.length : Int) - 1))))), DetI (.pointer (some ⟨b149, 0 + 2, none⟩)), DetI (.int .i64 ((p_0.Idxs.getD k91 d_Idx).Stage)), DetI (.bool ((i_isStage ((p_0.Idxs.getD k91 d_Idx).Stage)))), DetI (.bool (!(i_isStage ((p_0.Idxs.getD k91 d_Idx).Stage)))), DetI (.bool (!(i_isStage ((p_0.Idxs.getD k91 d_Idx).Stage)))), DetI (.bool (!(i_isStage ((p_0.Idxs.getD k91 d_Idx).Stage)))), DetI (.int .i64 ((k91 : Int))), DetI (.bool (decide (0 < (k91 : Int)))), DetI (.bool (decide (0 < (k91 : Int)))), DetI (undef), DetI (undef), DetI (undef), DetI (undef), DetI (undef), DetI (undef), DetI (undef), DetI (undef), DetI (undef), DetI (undef), DetI (.bool (false)), DetI (.bool (false))]) Tryd.follows rfl rfl rfl rfl rfl rfl (vgetI_stable ⟨StableI.det _, StableI.det _, StableI.det _, StableI.det _, StableI.det _, StableI.det _, StableI.det _, StableI.det _, StableI.det _, StableI.det _, StableI.det _, StableI.det _, StableI.det _, StableI.det _, StableI.det _, StableI.det _, StableI.det _, StableI.det _, StableI.det _, StableI.det _, StableI.det _, StableI.det _, StableI.det _, StableI.det _, StableI.det _, StableI.det _, StableI.det _, StableI.det _, StableI.det _, StableI.det _, StableI.det _, StableI.det _, StableI.det _, StableI.det _, StableI.det _, StableI.det _, trivial⟩) ⟨?_, ?_, ?_, ?_, ?_, ?_, ?_, ?_, ?_, ?_, ?_, ?_, ?_, ?_, ?_, ?_, ?_, ?_, ?_, ?_, ?_, ?_, ?_, ?_, ?_, ?_, ?_, ?_, ?_, ?_, ?_, ?_, ?_, ?_, ?_, ?_, trivial⟩ ?_
            ·exact fun _ _ h => os rfl ((yl_fieldAddr Tryd.fd74_0 rfl (h.old 6 _ rfl rfl) kI))
            ·exact fun _ _ h => os rfl ((yl_load1 Tryd.ty9 rfl (h.dt 0 52 rfl rfl rfl) (((Box.ex hB156 h.ex).cell 0).trans rfl) kI))
            ·intro L483 w484 hi485
             refine OpR.op' rfl (yl_call Tryd.en47 rfl (opvs_cons (hi485.dt 1 53 rfl rfl rfl) (opvs_cons rfl opvs_nil)) (Cal.mono (c_i_areLetters ((p_0.Idxs.getD k91 d_Idx).Name) 1 (okL.getD o3.2.2 ok_d_Idx _)) ?_))
             rintro v489 w488 ⟨rfl, hE490⟩
             exact ⟨rfl, hE490⟩
            ·exact fun _ _ h => os rfl ((yl_not rfl (h.dt 2 54 rfl rfl rfl) kI))
            ·exact fun _ _ h => os rfl ((yl_move rfl (h.dt 3 55 rfl rfl rfl) kI))
            ·exact fun _ _ h => OpR.want rfl rfl (h.dt 4 56 rfl rfl rfl) (not_t hb159) (Yl.sameI (yl_fieldAddr Tryd.fd74_1 rfl (h.old 6 _ rfl rfl) kI))
            ·exact fun _ _ h => OpR.want rfl rfl (h.dt 4 56 rfl rfl rfl) (not_t hb159) (Yl.sameI (yl_load1 Tryd.ty3 rfl (h.dt 5 57 rfl rfl rfl) (((Box.ex hB156 h.ex).cell 1).trans rfl) kI))
            ·exact fun _ _ h => OpR.want rfl rfl (h.dt 4 56 rfl rfl rfl) (not_t hb159) (Yl.sameI (yl_fieldAddr Tryd.fd36_1 rfl (h.old 1 _ rfl rfl) kI))
            ·exact fun _ _ h => OpR.want rfl rfl (h.dt 4 56 rfl rfl rfl) (not_t hb159) (Yl.sameI (yl_load1 Tryd.ty22 rfl (h.dt 7 59 rfl rfl rfl) (((Box.ex q469 h.ex).cell 1).trans rfl) kI))
            ·exact fun _ _ h => OpR.want rfl rfl (h.dt 4 56 rfl rfl rfl) (not_t hb159) (Yl.sameI (yl_len Tryd.un22 rfl (h.dt 8 60 rfl rfl rfl) kI))
            ·exact fun _ _ h => OpR.want rfl rfl (h.dt 4 56 rfl rfl rfl) (not_t hb159) (Yl.sameI (yl_sub rfl (h.dt 9 61 rfl rfl rfl) rfl kI))
            ·intro L539 w540 hi541
             refine OpR.want rfl rfl (hi541.dt 4 56 rfl rfl rfl) (not_t hb159) (yl_call Tryd.en48 rfl (opvs_cons (hi541.dt 6 58 rfl rfl rfl) (opvs_cons rfl (opvs_cons (hi541.dt 10 62 rfl rfl rfl) opvs_nil))) (Cal.mono (c_i_within ((p_0.Idxs.getD k91 d_Idx).Col) 1 (IntKind.wrap .i64 ((p_0.Cols.length : Int) - 1))) ?_))
             rintro v547 w546 ⟨rfl, hE548⟩
             exact ⟨rfl, hE548⟩
            ·exact fun _ _ h => OpR.want rfl rfl (h.dt 4 56 rfl rfl rfl) (not_t hb159) (Yl.sameI (yl_not rfl (h.dt 11 63 rfl rfl rfl) kI))
            ·exact fun _ _ h => os rfl ((yl_pick_f rfl (h.dt 4 56 rfl rfl rfl) (not_t hb159) (h.dt 12 64 rfl rfl rfl) kI))
            ·exact fun _ _ h => os rfl ((yl_move rfl (h.dt 13 65 rfl rfl rfl) kI))
            ·exact fun _ _ h => OpR.want rfl rfl (h.dt 14 66 rfl rfl rfl) (not_t hb164) (Yl.sameI (yl_fieldAddr Tryd.fd74_2 rfl (h.old 6 _ rfl rfl) kI))
            ·exact fun _ _ h => OpR.want rfl rfl (h.dt 14 66 rfl rfl rfl) (not_t hb164) (Yl.sameI (yl_load1 Tryd.ty3 rfl (h.dt 15 67 rfl rfl rfl) (((Box.ex hB156 h.ex).cell 2).trans rfl) kI))
            ·intro L579 w580 hi581
             refine OpR.want rfl rfl (hi581.dt 14 66 rfl rfl rfl) (not_t hb164) (yl_call Tryd.en50 rfl (opvs_cons (hi581.dt 16 68 rfl rfl rfl) opvs_nil) (Cal.mono (c_i_isStage ((p_0.Idxs.getD k91 d_Idx).Stage)) ?_))
             rintro v586 w585 ⟨rfl, hE587⟩
             exact ⟨rfl, hE587⟩
            ·exact fun _ _ h => OpR.want rfl rfl (h.dt 14 66 rfl rfl rfl) (not_t hb164) (Yl.sameI (yl_not rfl (h.dt 17 69 rfl rfl rfl) kI))
            ·exact fun _ _ h => os rfl ((yl_pick_f rfl (h.dt 14 66 rfl rfl rfl) (not_t hb164) (h.dt 18 70 rfl rfl rfl) kI))
            ·exact fun _ _ h => os rfl ((yl_move rfl (h.dt 19 71 rfl rfl rfl) kI))
            ·exact fun _ _ h => OpR.want rfl rfl (h.dt 20 72 rfl rfl rfl) (not_t hb170) (Yl.sameI (yl_move rfl (h.old 5 _ rfl rfl) kI))
            ·exact fun _ _ h => OpR.want rfl rfl (h.dt 20 72 rfl rfl rfl) (not_t hb170) (Yl.sameI (yl_gtr rfl (h.dt 21 73 rfl rfl rfl) rfl kI))
            ·exact fun _ _ h => OpR.want rfl rfl (h.dt 20 72 rfl rfl rfl) (not_t hb170) (Yl.sameI (yl_move rfl (h.dt 22 74 rfl rfl rfl) kI))
            ·exact fun _ _ h => OpR.skip rfl rfl (h.dt 23 75 rfl rfl rfl) hb176 ⟨rfl, Ex.refl _⟩
            ·exact fun _ _ h => OpR.skip rfl rfl (h.dt 23 75 rfl rfl rfl) hb176 ⟨rfl, Ex.refl _⟩
            ·exact fun _ _ h => OpR.skip rfl rfl (h.dt 23 75 rfl rfl rfl) hb176 ⟨rfl, Ex.refl _⟩
            ·exact fun _ _ h => OpR.skip rfl rfl (h.dt 23 75 rfl rfl rfl) hb176 ⟨rfl, Ex.refl _⟩
            ·exact fun _ _ h => OpR.skip rfl rfl (h.dt 23 75 rfl rfl rfl) hb176 ⟨rfl, Ex.refl _⟩
            ·exact fun _ _ h => OpR.skip rfl rfl (h.dt 23 75 rfl rfl rfl) hb176 ⟨rfl, Ex.refl _⟩
            ·exact fun _ _ h => OpR.skip rfl rfl (h.dt 23 75 rfl rfl rfl) hb176 ⟨rfl, Ex.refl _⟩
            ·exact fun _ _ h => OpR.skip rfl rfl (h.dt 23 75 rfl rfl rfl) hb176 ⟨rfl, Ex.refl _⟩
            ·exact fun _ _ h => OpR.skip rfl rfl (h.dt 23 75 rfl rfl rfl) hb176 ⟨rfl, Ex.refl _⟩
            ·exact fun _ _ h => OpR.skip rfl rfl (h.dt 23 75 rfl rfl rfl) hb176 ⟨rfl, Ex.refl _⟩
            ·exact fun _ _ h => OpR.want rfl rfl (h.dt 20 72 rfl rfl rfl) (not_t hb170) (Yl.sameI (yl_pick_f rfl (h.dt 23 75 rfl rfl rfl) hb176 rfl kI))
            ·exact fun _ _ h => os rfl ((yl_pick_f rfl (h.dt 20 72 rfl rfl rfl) (not_t hb170) (h.dt 34 86 rfl rfl rfl) kI))
            ·intro fl689 fh690 L686 w687 hp688
             have hE691 := hp688.ex
             have hE691z := Ex.size hE691
             refine SeqR.done (tn (CW.sub (Sub.cons (d := 1) (hp688.old 1 _ rfl rfl) (Sub.cons (d := 45) (hp688.old 45 _ rfl rfl) (Sub.cons (d := 46) (hp688.old 46 _ rfl rfl) (Sub.cons (d := 47) (hp688.old 47 _ rfl rfl) (Sub.cons (d := 57) (hp688.nt 5 57 rfl rfl rfl) (Sub.cons (d := 58) (hp688.nt 6 58 rfl rfl rfl) (Sub.cons (d := 59) (hp688.nt 7 59 rfl rfl rfl) (Sub.cons (d := 60) (hp688.nt 8 60 rfl rfl rfl) (Sub.cons (d := 61) (hp688.nt 9 61 rfl rfl rfl) (Sub.cons (d := 62) (hp688.nt 10 62 rfl rfl rfl) (Sub.cons (d := 63) (hp688.nt 11 63 rfl rfl rfl) (Sub.cons (d := 64) (hp688.nt 12 64 rfl rfl rfl) (Sub.cons (d := 67) (hp688.nt 15 67 rfl rfl rfl) (Sub.cons (d := 68) (hp688.nt 16 68 rfl rfl rfl) (Sub.cons (d := 69) (hp688.nt 17 69 rfl rfl rfl) (Sub.cons (d := 70) (hp688.nt 18 70 rfl rfl rfl) (Sub.cons (d := 73) (hp688.nt 21 73 rfl rfl rfl) (Sub.cons (d := 74) (hp688.nt 22 74 rfl rfl rfl) (Sub.cons (d := 75) (hp688.nt 23 75 rfl rfl rfl) (Sub.cons (d := 76) (hp688.nt 24 76 rfl rfl rfl) (Sub.cons (d := 77) (hp688.nt 25 77 rfl rfl rfl) (Sub.cons (d := 78) (hp688.nt 26 78 rfl rfl rfl) (Sub.cons (d := 79) (hp688.nt 27 79 rfl rfl rfl) (Sub.cons (d := 80) (hp688.nt 28 80 rfl rfl rfl) (Sub.cons (d := 81) (hp688.nt 29 81 rfl rfl rfl) (Sub.cons (d := 82) (hp688.nt 30 82 rfl rfl rfl) (Sub.cons (d := 83) (hp688.nt 31 83 rfl rfl rfl) (Sub.cons (d := 84) (hp688.nt 32 84 rfl rfl rfl) (Sub.cons (d := 85) (hp688.nt 33 85 rfl rfl rfl) (Sub.cons (d := 86) (hp688.nt 34 86 rfl rfl rfl) (Sub.cons (d := 87) (hp688.nt 35 87 rfl rfl rfl) (Sub.nil _)))))))))))))))))))))))))))))))) ?_))
             refine CW.cond_f rfl rfl (CW.skip (bn (tn (CW.region (sd rfl (yl_inc rfl rfl rfl (by omega) (sd rfl (yl_move rfl rfl (SeqR.done (tn ?_))))))))))
             have hB723 : B_i_GoodTable_1 p_0 k91 () = .cont () := by simp only [B_i_GoodTable_1, hb16, hb21, hb23, hb159, hb164, hb170, hb176, hL90, cond_true, cond_false, loopE_done, loopE_ret]
             exact ⟨p_0.Idxs.length - (k91 + 1), by omega, k91 + 1, rfl, hlt147, (by omega), rfl, rfl, rfl, rfl, (Box.ex q469 hE691), (RdS.ex good_Str (RdS.only good_Str (RdS.ex good_Str hf143 hE154) hO157 (by simp only [Iv]; omega)) hE691), (RdS.ex good_Idx (RdS.only good_Idx (RdS.ex good_Idx hf144 hE154) hO157 (by simp only [Iv]; omega)) hE691), (Ex.trans (Below.only (Ex.trans hf145 hE154) hO157 (by omega)) hE691), (loopM.cont hlt147 hB723).symm.trans hI136⟩
          ·refine CW.drawsI 36 (vgetI [DetI (.pointer (some ⟨b149, 0 + 0, none⟩)), DetI (.string (bs ((p_0.Idxs.getD k91 d_Idx).Name))), DetI (.bool ((i_areLetters ((p_0.Idxs.getD k91 d_Idx).Name) 1))), DetI (.bool (!(i_areLetters ((p_0.Idxs.getD k91 d_Idx).Name) 1))), DetI (.bool (!(i_areLetters ((p_0.Idxs.getD k91 d_Idx).Name) 1))), DetI (.pointer (some ⟨b149, 0 + 1, none⟩)), DetI (.int .i64 ((p_0.Idxs.getD k91 d_Idx).Col)), DetI (.pointer (some ⟨b7, 0 + 1, none⟩)), DetI (.slice A1 p_0.Cols.length c1), DetI (.int .i64 ((p_0.Cols.length : Int))), DetI (.int .i64 (IntKind.wrap .i64 ((p_0.Cols.length : Int) - 1))), DetI (.bool ((i_within ((p_0.Idxs.getD k91 d_Idx).Col) 1 (IntKind.wrap .i64 ((p_0.Cols.length : Int) - 1))))), DetI (.bool (!(i_within ((p_0.Idxs.getD k91 d_Idx).Col) 1 (IntKind.wrap .i64 ((p_0.Cols.length : Int) - 1))))), DetI (.bool (!(i_within ((p_0.Idxs.getD k91 d_Idx).Col) 1 (IntKind.wrap .i64 ((p_0.Cols.length : Int) - 1))))), DetI (.bool (!(i_within ((p_0.Idxs.getD k91 d_Idx).Col) 1 (IntKind.wrap .i64 ((p_0.Cols.length : Int) - 1))))), DetI (.pointer (some ⟨b149, 0 + 2, none⟩)), DetI (.int .i64 ((p_0.Idxs.getD k91 d_Idx).Stage)), DetI (.bool ((i_isStage ((p_0.Idxs.getD k91 d_Idx).Stage)))), DetI (.bool (!(i_isStage ((p_0.Idxs.getD k91 d_Idx).Stage)))), DetI (.bool (!(i_isStage ((p_0.Idxs.getD k91 d_Idx).Stage)))), DetI (.bool (!(i_isStage ((p_0.Idxs.getD k91 d_Idx).Stage)))), DetI (undef), DetI (undef), DetI (undef), DetI (undef), DetI (undef), DetI (undef), DetI (undef), DetI (undef), DetI (undef), DetI (undef), DetI (undef), DetI (undef), DetI (undef), DetI (undef), DetI (.bool (true))]) Tryd.follows rfl rfl rfl rfl rfl rfl (vgetI_stable ⟨StableI.det _, StableI.det _, StableI.det _, StableI.det _, StableI.det _, StableI.det _, StableI.det _, StableI.det _, StableI.det _, StableI.det _, StableI.det _, StableI.det _, StableI.det _, StableI.det _, StableI.det _, StableI.det _, StableI.det _, StableI.det _, StableI.det _, StableI.det _, StableI.det _, StableI.det _, StableI.det _, StableI.det _, StableI.det _, StableI.det _, StableI.det _, StableI.det _, StableI.det _, StableI.det _, StableI.det _, StableI.det _, StableI.det _, StableI.det _, StableI.det _, StableI.det _, trivial⟩) ⟨?_, ?_, ?_, ?_, ?_, ?_, ?_, ?_, ?_, ?_, ?_, ?_, ?_, ?_, ?_, ?_, ?_, ?_, ?_, ?_, ?_, ?_, ?_, ?_, ?_, ?_, ?_, ?_, ?_, ?_, ?_, ?_, ?_, ?_, ?_, ?_, trivial⟩ ?_
           ·exact fun _ _ h => os rfl ((yl_fieldAddr Tryd.fd74_0 rfl (h.old 6 _ rfl rfl) kI))
           ·exact fun _ _ h => os rfl ((yl_load1 Tryd.ty9 rfl (h.dt 0 52 rfl rfl rfl) (((Box.ex hB156 h.ex).cell 0).trans rfl) kI))
           ·intro L750 w751 hi752
            refine OpR.op' rfl (yl_call Tryd.en47 rfl (opvs_cons (hi752.dt 1 53 rfl rfl rfl) (opvs_cons rfl opvs_nil)) (Cal.mono (c_i_areLetters ((p_0.Idxs.getD k91 d_Idx).Name) 1 (okL.getD o3.2.2 ok_d_Idx _)) ?_))
            rintro v756 w755 ⟨rfl, hE757⟩
            exact ⟨rfl, hE757⟩
           ·exact fun _ _ h => os rfl ((yl_not rfl (h.dt 2 54 rfl rfl rfl) kI))
           ·exact fun _ _ h => os rfl ((yl_move rfl (h.dt 3 55 rfl rfl rfl) kI))
           ·exact fun _ _ h => OpR.want rfl rfl (h.dt 4 56 rfl rfl rfl) (not_t hb159) (Yl.sameI (yl_fieldAddr Tryd.fd74_1 rfl (h.old 6 _ rfl rfl) kI))
           ·exact fun _ _ h => OpR.want rfl rfl (h.dt 4 56 rfl rfl rfl) (not_t hb159) (Yl.sameI (yl_load1 Tryd.ty3 rfl (h.dt 5 57 rfl rfl rfl) (((Box.ex hB156 h.ex).cell 1).trans rfl) kI))
           ·exact fun _ _ h => OpR.want rfl rfl (h.dt 4 56 rfl rfl rfl) (not_t hb159) (Yl.sameI (yl_fieldAddr Tryd.fd36_1 rfl (h.old 1 _ rfl rfl) kI))
           ·intro L787 w788 hi789
            have hE790 := hi789.ex
            have hE790z := Ex.size hE790
            exact OpR.want rfl rfl (hi789.dt 4 56 rfl rfl rfl) (not_t hb159) (Yl.sameI (yl_load1 Tryd.ty22 rfl (hi789.dt 7 59 rfl rfl rfl) (((Box.ex (Box.only (Box.ex hf142 hE154) hO157 (by omega)) hE790).cell 1).trans rfl) kI))
           ·exact fun _ _ h => OpR.want rfl rfl (h.dt 4 56 rfl rfl rfl) (not_t hb159) (Yl.sameI (yl_len Tryd.un22 rfl (h.dt 8 60 rfl rfl rfl) kI))
           ·exact fun _ _ h => OpR.want rfl rfl (h.dt 4 56 rfl rfl rfl) (not_t hb159) (Yl.sameI (yl_sub rfl (h.dt 9 61 rfl rfl rfl) rfl kI))
           ·intro L806 w807 hi808
            refine OpR.want rfl rfl (hi808.dt 4 56 rfl rfl rfl) (not_t hb159) (yl_call Tryd.en48 rfl (opvs_cons (hi808.dt 6 58 rfl rfl rfl) (opvs_cons rfl (opvs_cons (hi808.dt 10 62 rfl rfl rfl) opvs_nil))) (Cal.mono (c_i_within ((p_0.Idxs.getD k91 d_Idx).Col) 1 (IntKind.wrap .i64 ((p_0.Cols.length : Int) - 1))) ?_))
            rintro v814 w813 ⟨rfl, hE815⟩
            exact ⟨rfl, hE815⟩
           ·exact fun _ _ h => OpR.want rfl rfl (h.dt 4 56 rfl rfl rfl) (not_t hb159) (Yl.sameI (yl_not rfl (h.dt 11 63 rfl rfl rfl) kI))
           ·exact fun _ _ h => os rfl ((yl_pick_f rfl (h.dt 4 56 rfl rfl rfl) (not_t hb159) (h.dt 12 64 rfl rfl rfl) kI))
           ·exact fun _ _ h => os rfl ((yl_move rfl (h.dt 13 65 rfl rfl rfl) kI))
           ·exact fun _ _ h => OpR.want rfl rfl (h.dt 14 66 rfl rfl rfl) (not_t hb164) (Yl.sameI (yl_fieldAddr Tryd.fd74_2 rfl (h.old 6 _ rfl rfl) kI))
           ·exact fun _ _ h => OpR.want rfl rfl (h.dt 14 66 rfl rfl rfl) (not_t hb164) (Yl.sameI (yl_load1 Tryd.ty3 rfl (h.dt 15 67 rfl rfl rfl) (((Box.ex hB156 h.ex).cell 2).trans rfl) kI))
           ·intro L846 w847 hi848
            refine OpR.want rfl rfl (hi848.dt 14 66 rfl rfl rfl) (not_t hb164) (yl_call Tryd.en50 rfl (opvs_cons (hi848.dt 16 68 rfl rfl rfl) opvs_nil) (Cal.mono (c_i_isStage ((p_0.Idxs.getD k91 d_Idx).Stage)) ?_))
            rintro v853 w852 ⟨rfl, hE854⟩
            exact ⟨rfl, hE854⟩
           ·exact fun _ _ h => OpR.want rfl rfl (h.dt 14 66 rfl rfl rfl) (not_t hb164) (Yl.sameI (yl_not rfl (h.dt 17 69 rfl rfl rfl) kI))
           ·exact fun _ _ h => os rfl ((yl_pick_f rfl (h.dt 14 66 rfl rfl rfl) (not_t hb164) (h.dt 18 70 rfl rfl rfl) kI))
           ·exact fun _ _ h => os rfl ((yl_move rfl (h.dt 19 71 rfl rfl rfl) kI))
           ·exact fun _ _ h => OpR.skip rfl rfl (h.dt 20 72 rfl rfl rfl) (not_f hb170) ⟨rfl, Ex.refl _⟩
           ·exact fun _ _ h => OpR.skip rfl rfl (h.dt 20 72 rfl rfl rfl) (not_f hb170) ⟨rfl, Ex.refl _⟩
           ·exact fun _ _ h => OpR.skip rfl rfl (h.dt 20 72 rfl rfl rfl) (not_f hb170) ⟨rfl, Ex.refl _⟩
           ·exact fun _ _ h => OpR.undef rfl rfl (h.dt 23 75 rfl rfl rfl) ⟨rfl, Ex.refl _⟩
           ·exact fun _ _ h => OpR.undef rfl rfl (h.dt 23 75 rfl rfl rfl) ⟨rfl, Ex.refl _⟩
           ·exact fun _ _ h => OpR.undef rfl rfl (h.dt 23 75 rfl rfl rfl) ⟨rfl, Ex.refl _⟩
           ·exact fun _ _ h => OpR.undef rfl rfl (h.dt 23 75 rfl rfl rfl) ⟨rfl, Ex.refl _⟩
           ·exact fun _ _ h => OpR.undef rfl rfl (h.dt 23 75 rfl rfl rfl) ⟨rfl, Ex.refl _⟩
           ·exact fun _ _ h => OpR.undef rfl rfl (h.dt 23 75 rfl rfl rfl) ⟨rfl, Ex.refl _⟩
           ·exact fun _ _ h => OpR.undef rfl rfl (h.dt 23 75 rfl rfl rfl) ⟨rfl, Ex.refl _⟩
           ·exact fun _ _ h => OpR.undef rfl rfl (h.dt 23 75 rfl rfl rfl) ⟨rfl, Ex.refl _⟩
           ·exact fun _ _ h => OpR.undef rfl rfl (h.dt 23 75 rfl rfl rfl) ⟨rfl, Ex.refl _⟩
           ·exact fun _ _ h => OpR.undef rfl rfl (h.dt 23 75 rfl rfl rfl) ⟨rfl, Ex.refl _⟩
           ·exact fun _ _ h => OpR.skip rfl rfl (h.dt 20 72 rfl rfl rfl) (not_f hb170) ⟨rfl, Ex.refl _⟩
           ·exact fun _ _ h => os rfl ((yl_pick_t rfl (h.dt 20 72 rfl rfl rfl) (not_f hb170) rfl kI))
           ·intro fl951 fh952 L948 w949 hp950
            have hE953 := hp950.ex
            have hE953z := Ex.size hE953
            refine SeqR.done (tn (CW.sub (Sub.cons (d := 1) (hp950.old 1 _ rfl rfl) (Sub.cons (d := 45) (hp950.old 45 _ rfl rfl) (Sub.cons (d := 46) (hp950.old 46 _ rfl rfl) (Sub.cons (d := 47) (hp950.old 47 _ rfl rfl) (Sub.cons (d := 57) (hp950.nt 5 57 rfl rfl rfl) (Sub.cons (d := 58) (hp950.nt 6 58 rfl rfl rfl) (Sub.cons (d := 59) (hp950.nt 7 59 rfl rfl rfl) (Sub.cons (d := 60) (hp950.nt 8 60 rfl rfl rfl) (Sub.cons (d := 61) (hp950.nt 9 61 rfl rfl rfl) (Sub.cons (d := 62) (hp950.nt 10 62 rfl rfl rfl) (Sub.cons (d := 63) (hp950.nt 11 63 rfl rfl rfl) (Sub.cons (d := 64) (hp950.nt 12 64 rfl rfl rfl) (Sub.cons (d := 67) (hp950.nt 15 67 rfl rfl rfl) (Sub.cons (d := 68) (hp950.nt 16 68 rfl rfl rfl) (Sub.cons (d := 69) (hp950.nt 17 69 rfl rfl rfl) (Sub.cons (d := 70) (hp950.nt 18 70 rfl rfl rfl) (Sub.cons (d := 73) (hp950.nt 21 73 rfl rfl rfl) (Sub.cons (d := 74) (hp950.nt 22 74 rfl rfl rfl) (Sub.cons (d := 75) (hp950.nt 23 75 rfl rfl rfl) (Sub.cons (d := 76) (hp950.nt 24 76 rfl rfl rfl) (Sub.cons (d := 77) (hp950.nt 25 77 rfl rfl rfl) (Sub.cons (d := 78) (hp950.nt 26 78 rfl rfl rfl) (Sub.cons (d := 79) (hp950.nt 27 79 rfl rfl rfl) (Sub.cons (d := 80) (hp950.nt 28 80 rfl rfl rfl) (Sub.cons (d := 81) (hp950.nt 29 81 rfl rfl rfl) (Sub.cons (d := 82) (hp950.nt 30 82 rfl rfl rfl) (Sub.cons (d := 83) (hp950.nt 31 83 rfl rfl rfl) (Sub.cons (d := 84) (hp950.nt 32 84 rfl rfl rfl) (Sub.cons (d := 85) (hp950.nt 33 85 rfl rfl rfl) (Sub.cons (d := 86) (hp950.nt 34 86 rfl rfl rfl) (Sub.cons (d := 87) (hp950.nt 35 87 rfl rfl rfl) (Sub.nil _)))))))))))))))))))))))))))))))) ?_))
            refine CW.cond_t rfl rfl (CW.seq (CW.region (sd rfl (yl_assign rfl rfl (SeqR.done (tn (CW.ret (br (tr ?_)))))))))
            refine tr ?_
            have hB986 : B_i_GoodTable_1 p_0 k91 () = .ret false := by simp only [B_i_GoodTable_1, hb16, hb21, hb23, hb159, hb164, hb170, hL90, cond_true, cond_false, loopE_done, loopE_ret]
            have hL985 : loopM (B_i_GoodTable_1 p_0) (p_0.Idxs.length - 0) 0 () = .ret false := hI136.symm.trans (loopM.ret hlt147 hB986)
            refine br (tr (rr rfl (.cons rfl .nil) ?_))
            have hM987 : (i_GoodTable p_0) = (false) := by simp only [i_GoodTable, hb16, hb21, hb23, hb159, hb164, hb170, hL90, hL985, cond_true, cond_false, loopE_done, loopE_ret]
            rw [hM987]
            exact ⟨rfl, (Ex.trans (Below.only (Ex.trans hf145 hE154) hO157 (by omega)) hE953)⟩
         ·refine CW.drawsI 36 (vgetI [DetI (.pointer (some ⟨b149, 0 + 0, none⟩)), DetI (.string (bs ((p_0.Idxs.getD k91 d_Idx).Name))), DetI (.bool ((i_areLetters ((p_0.Idxs.getD k91 d_Idx).Name) 1))), DetI (.bool (!(i_areLetters ((p_0.Idxs.getD k91 d_Idx).Name) 1))), DetI (.bool (!(i_areLetters ((p_0.Idxs.getD k91 d_Idx).Name) 1))), DetI (.pointer (some ⟨b149, 0 + 1, none⟩)), DetI (.int .i64 ((p_0.Idxs.getD k91 d_Idx).Col)), DetI (.pointer (some ⟨b7, 0 + 1, none⟩)), DetI (.slice A1 p_0.Cols.length c1), DetI (.int .i64 ((p_0.Cols.length : Int))), DetI (.int .i64 (IntKind.wrap .i64 ((p_0.Cols.length : Int) - 1))), DetI (.bool ((i_within ((p_0.Idxs.getD k91 d_Idx).Col) 1 (IntKind.wrap .i64 ((p_0.Cols.length : Int) - 1))))), DetI (.bool (!(i_within ((p_0.Idxs.getD k91 d_Idx).Col) 1 (IntKind.wrap .i64 ((p_0.Cols.length : Int) - 1))))), DetI (.bool (!(i_within ((p_0.Idxs.getD k91 d_Idx).Col) 1 (IntKind.wrap .i64 ((p_0.Cols.length : Int) - 1))))), DetI (.bool (!(i_within ((p_0.Idxs.getD k91 d_Idx).Col) 1 (IntKind.wrap .i64 ((p_0.Cols.length : Int) - 1))))), DetI (undef), DetI (undef), DetI (undef), DetI (undef), DetI (.bool (true)), DetI (.bool (true)), DetI (undef), DetI (undef), DetI (undef), DetI (undef), DetI (undef), DetI (undef), DetI (undef), DetI (undef), DetI (undef), DetI (undef), DetI (undef), DetI (undef), DetI (undef), DetI (undef), DetI (.bool (true))]) Tryd.follows rfl rfl rfl rfl rfl rfl (vgetI_stable ⟨StableI.det _, StableI.det _, StableI.det _, StableI.det _, StableI.det _, StableI.det _, StableI.det _, StableI.det _, StableI.det _, StableI.det _, StableI.det _, StableI.det _, StableI.det _, StableI.det _, StableI.det _, StableI.det _, StableI.det _, StableI.det _, StableI.det _, StableI.det _, StableI.det _, StableI.det _, StableI.det _, StableI.det _, StableI.det _, StableI.det _, StableI.det _, StableI.det _, StableI.det _, StableI.det _, StableI.det _, StableI.det _, StableI.det _, StableI.det _, StableI.det _, StableI.det _, trivial⟩) ⟨?_, ?_, ?_, ?_, ?_, ?_, ?_, ?_, ?_, ?_, ?_, ?_, ?_, ?_, ?_, ?_, ?_, ?_, ?_, ?_, ?_, ?_, ?_, ?_, ?_, ?_, ?_, ?_, ?_, ?_, ?_, ?_, ?_, ?_, ?_, ?_, trivial⟩ ?_
          ·exact fun _ _ h => os rfl ((yl_fieldAddr Tryd.fd74_0 rfl (h.old 6 _ rfl rfl) kI))
          ·exact fun _ _ h => os rfl ((yl_load1 Tryd.ty9 rfl (h.dt 0 52 rfl rfl rfl) (((Box.ex hB156 h.ex).cell 0).trans rfl) kI))
          ·intro L1006 w1007 hi1008
           refine OpR.op' rfl (yl_call Tryd.en47 rfl (opvs_cons (hi1008.dt 1 53 rfl rfl rfl) (opvs_cons rfl opvs_nil)) (Cal.mono (c_i_areLetters ((p_0.Idxs.getD k91 d_Idx).Name) 1 (okL.getD o3.2.2 ok_d_Idx _)) ?_))
           rintro v1012 w1011 ⟨rfl, hE1013⟩
           exact ⟨rfl, hE1013⟩
          ·exact fun _ _ h => os rfl ((yl_not rfl (h.dt 2 54 rfl rfl rfl) kI))
          ·exact fun _ _ h => os rfl ((yl_move rfl (h.dt 3 55 rfl rfl rfl) kI))
          ·exact fun _ _ h => OpR.want rfl rfl (h.dt 4 56 rfl rfl rfl) (not_t hb159) (Yl.sameI (yl_fieldAddr Tryd.fd74_1 rfl (h.old 6 _ rfl rfl) kI))
          ·exact fun _ _ h => OpR.want rfl rfl (h.dt 4 56 rfl rfl rfl) (not_t hb159) (Yl.sameI (yl_load1 Tryd.ty3 rfl (h.dt 5 57 rfl rfl rfl) (((Box.ex hB156 h.ex).cell 1).trans rfl) kI))
          ·exact fun _ _ h => OpR.want rfl rfl (h.dt 4 56 rfl rfl rfl) (not_t hb159) (Yl.sameI (yl_fieldAddr Tryd.fd36_1 rfl (h.old 1 _ rfl rfl) kI))
          ·intro L1043 w1044 hi1045
           have hE1046 := hi1045.ex
           have hE1046z := Ex.size hE1046
           exact OpR.want rfl rfl (hi1045.dt 4 56 rfl rfl rfl) (not_t hb159) (Yl.sameI (yl_load1 Tryd.ty22 rfl (hi1045.dt 7 59 rfl rfl rfl) (((Box.ex (Box.only (Box.ex hf142 hE154) hO157 (by omega)) hE1046).cell 1).trans rfl) kI))
          ·exact fun _ _ h => OpR.want rfl rfl (h.dt 4 56 rfl rfl rfl) (not_t hb159) (Yl.sameI (yl_len Tryd.un22 rfl (h.dt 8 60 rfl rfl rfl) kI))
          ·exact fun _ _ h => OpR.want rfl rfl (h.dt 4 56 rfl rfl rfl) (not_t hb159) (Yl.sameI (yl_sub rfl (h.dt 9 61 rfl rfl rfl) rfl kI))
          ·intro L1062 w1063 hi1064
           refine OpR.want rfl rfl (hi1064.dt 4 56 rfl rfl rfl) (not_t hb159) (yl_call Tryd.en48 rfl (opvs_cons (hi1064.dt 6 58 rfl rfl rfl) (opvs_cons rfl (opvs_cons (hi1064.dt 10 62 rfl rfl rfl) opvs_nil))) (Cal.mono (c_i_within ((p_0.Idxs.getD k91 d_Idx).Col) 1 (IntKind.wrap .i64 ((p_0.Cols.length : Int) - 1))) ?_))
           rintro v1070 w1069 ⟨rfl, hE1071⟩
           exact ⟨rfl, hE1071⟩
          ·exact fun _ _ h => OpR.want rfl rfl (h.dt 4 56 rfl rfl rfl) (not_t hb159) (Yl.sameI (yl_not rfl (h.dt 11 63 rfl rfl rfl) kI))
          ·exact fun _ _ h => os rfl ((yl_pick_f rfl (h.dt 4 56 rfl rfl rfl) (not_t hb159) (h.dt 12 64 rfl rfl rfl) kI))
          ·exact fun _ _ h => os rfl ((yl_move rfl (h.dt 13 65 rfl rfl rfl) kI))
          ·exact fun _ _ h => OpR.skip rfl rfl (h.dt 14 66 rfl rfl rfl) (not_f hb164) ⟨rfl, Ex.refl _⟩
          ·exact fun _ _ h => OpR.skip rfl rfl (h.dt 14 66 rfl rfl rfl) (not_f hb164) ⟨rfl, Ex.refl _⟩
          ·exact fun _ _ h => OpR.skip rfl rfl (h.dt 14 66 rfl rfl rfl) (not_f hb164) ⟨rfl, Ex.refl _⟩
          ·exact fun _ _ h => OpR.skip rfl rfl (h.dt 14 66 rfl rfl rfl) (not_f hb164) ⟨rfl, Ex.refl _⟩
          ·exact fun _ _ h => os rfl ((yl_pick_t rfl (h.dt 14 66 rfl rfl rfl) (not_f hb164) rfl kI))
          ·exact fun _ _ h => os rfl ((yl_move rfl (h.dt 19 71 rfl rfl rfl) kI))
          ·exact fun _ _ h => OpR.skip rfl rfl (h.dt 20 72 rfl rfl rfl) rfl ⟨rfl, Ex.refl _⟩
          ·exact fun _ _ h => OpR.skip rfl rfl (h.dt 20 72 rfl rfl rfl) rfl ⟨rfl, Ex.refl _⟩
          ·exact fun _ _ h => OpR.skip rfl rfl (h.dt 20 72 rfl rfl rfl) rfl ⟨rfl, Ex.refl _⟩
          ·exact fun _ _ h => OpR.undef rfl rfl (h.dt 23 75 rfl rfl rfl) ⟨rfl, Ex.refl _⟩
          ·exact fun _ _ h => OpR.undef rfl rfl (h.dt 23 75 rfl rfl rfl) ⟨rfl, Ex.refl _⟩
          ·exact fun _ _ h => OpR.undef rfl rfl (h.dt 23 75 rfl rfl rfl) ⟨rfl, Ex.refl _⟩
          ·exact fun _ _ h => OpR.undef rfl rfl (h.dt 23 75 rfl rfl rfl) ⟨rfl, Ex.refl _⟩
          ·exact fun _ _ h => OpR.undef rfl rfl (h.dt 23 75 rfl rfl rfl) ⟨rfl, Ex.refl _⟩
          ·exact fun _ _ h => OpR.undef rfl rfl (h.dt 23 75 rfl rfl rfl) ⟨rfl, Ex.refl _⟩
          ·exact fun _ _ h => OpR.undef rfl rfl (h.dt 23 75 rfl rfl rfl) ⟨rfl, Ex.refl _⟩
          ·exact fun _ _ h => OpR.undef rfl rfl (h.dt 23 75 rfl rfl rfl) ⟨rfl, Ex.refl _⟩
          ·exact fun _ _ h => OpR.undef rfl rfl (h.dt 23 75 rfl rfl rfl) ⟨rfl, Ex.refl _⟩
          ·exact fun _ _ h => OpR.undef rfl rfl (h.dt 23 75 rfl rfl rfl) ⟨rfl, Ex.refl _⟩
          ·exact fun _ _ h => OpR.skip rfl rfl (h.dt 20 72 rfl rfl rfl) rfl ⟨rfl, Ex.refl _⟩
          ·exact fun _ _ h => os rfl ((yl_pick_t rfl (h.dt 20 72 rfl rfl rfl) rfl rfl kI))
          ·intro fl1199 fh1200 L1196 w1197 hp1198
           have hE1201 := hp1198.ex
           have hE1201z := Ex.size hE1201
           refine SeqR.done (tn (CW.sub (Sub.cons (d := 1) (hp1198.old 1 _ rfl rfl) (Sub.cons (d := 45) (hp1198.old 45 _ rfl rfl) (Sub.cons (d := 46) (hp1198.old 46 _ rfl rfl) (Sub.cons (d := 47) (hp1198.old 47 _ rfl rfl) (Sub.cons (d := 57) (hp1198.nt 5 57 rfl rfl rfl) (Sub.cons (d := 58) (hp1198.nt 6 58 rfl rfl rfl) (Sub.cons (d := 59) (hp1198.nt 7 59 rfl rfl rfl) (Sub.cons (d := 60) (hp1198.nt 8 60 rfl rfl rfl) (Sub.cons (d := 61) (hp1198.nt 9 61 rfl rfl rfl) (Sub.cons (d := 62) (hp1198.nt 10 62 rfl rfl rfl) (Sub.cons (d := 63) (hp1198.nt 11 63 rfl rfl rfl) (Sub.cons (d := 64) (hp1198.nt 12 64 rfl rfl rfl) (Sub.cons (d := 67) (hp1198.nt 15 67 rfl rfl rfl) (Sub.cons (d := 68) (hp1198.nt 16 68 rfl rfl rfl) (Sub.cons (d := 69) (hp1198.nt 17 69 rfl rfl rfl) (Sub.cons (d := 70) (hp1198.nt 18 70 rfl rfl rfl) (Sub.cons (d := 73) (hp1198.nt 21 73 rfl rfl rfl) (Sub.cons (d := 74) (hp1198.nt 22 74 rfl rfl rfl) (Sub.cons (d := 75) (hp1198.nt 23 75 rfl rfl rfl) (Sub.cons (d := 76) (hp1198.nt 24 76 rfl rfl rfl) (Sub.cons (d := 77) (hp1198.nt 25 77 rfl rfl rfl) (Sub.cons (d := 78) (hp1198.nt 26 78 rfl rfl rfl) (Sub.cons (d := 79) (hp1198.nt 27 79 rfl rfl rfl) (Sub.cons (d := 80) (hp1198.nt 28 80 rfl rfl rfl) (Sub.cons (d := 81) (hp1198.nt 29 81 rfl rfl rfl) (Sub.cons (d := 82) (hp1198.nt 30 82 rfl rfl rfl) (Sub.cons (d := 83) (hp1198.nt 31 83 rfl rfl rfl) (Sub.cons (d := 84) (hp1198.nt 32 84 rfl rfl rfl) (Sub.cons (d := 85) (hp1198.nt 33 85 rfl rfl rfl) (Sub.cons (d := 86) (hp1198.nt 34 86 rfl rfl rfl) (Sub.cons (d := 87) (hp1198.nt 35 87 rfl rfl rfl) (Sub.nil _)))))))))))))))))))))))))))))))) ?_))
           refine CW.cond_t rfl rfl (CW.seq (CW.region (sd rfl (yl_assign rfl rfl (SeqR.done (tn (CW.ret (br (tr ?_)))))))))
           refine tr ?_
           have hB1234 : B_i_GoodTable_1 p_0 k91 () = .ret false := by simp only [B_i_GoodTable_1, hb16, hb21, hb23, hb159, hb164, hL90, cond_true, cond_false, loopE_done, loopE_ret]
           have hL1233 : loopM (B_i_GoodTable_1 p_0) (p_0.Idxs.length - 0) 0 () = .ret false := hI136.symm.trans (loopM.ret hlt147 hB1234)
           refine br (tr (rr rfl (.cons rfl .nil) ?_))
           have hM1235 : (i_GoodTable p_0) = (false) := by simp only [i_GoodTable, hb16, hb21, hb23, hb159, hb164, hL90, hL1233, cond_true, cond_false, loopE_done, loopE_ret]
           rw [hM1235]
           exact ⟨rfl, (Ex.trans (Below.only (Ex.trans hf145 hE154) hO157 (by omega)) hE1201)⟩
        ·refine CW.drawsI 36 (vgetI [DetI (.pointer (some ⟨b149, 0 + 0, none⟩)), DetI (.string (bs ((p_0.Idxs.getD k91 d_Idx).Name))), DetI (.bool ((i_areLetters ((p_0.Idxs.getD k91 d_Idx).Name) 1))), DetI (.bool (!(i_areLetters ((p_0.Idxs.getD k91 d_Idx).Name) 1))), DetI (.bool (!(i_areLetters ((p_0.Idxs.getD k91 d_Idx).Name) 1))), DetI (undef), DetI (undef), DetI (undef), DetI (undef), DetI (undef), DetI (undef), DetI (undef), DetI (undef), DetI (.bool (true)), DetI (.bool (true)), DetI (undef), DetI (undef), DetI (undef), DetI (undef), DetI (.bool (true)), DetI (.bool (true)), DetI (undef), DetI (undef), DetI (undef), DetI (undef), DetI (undef), DetI (undef), DetI (undef), DetI (undef), DetI (undef), DetI (undef), DetI (undef), DetI (undef), DetI (undef), DetI (undef), DetI (.bool (true))]) Tryd.follows rfl rfl rfl rfl rfl rfl (vgetI_stable ⟨StableI.det _, StableI.det _, StableI.det _, StableI.det _, StableI.det _, StableI.det _, StableI.det _, StableI.det _, StableI.det _, StableI.det _, StableI.det _, StableI.det _, StableI.det _, StableI.det _, StableI.det _, StableI.det _, StableI.det _, StableI.det _, StableI.det _, StableI.det _, StableI.det _, StableI.det _, StableI.det _, StableI.det _, StableI.det _, StableI.det _, StableI.det _, StableI.det _, StableI.det _, StableI.det _, StableI.det _, StableI.det _, StableI.det _, StableI.det _, StableI.det _, StableI.det _, trivial⟩) ⟨?_, ?_, ?_, ?_, ?_, ?_, ?_, ?_, ?_, ?_, ?_, ?_, ?_, ?_, ?_, ?_, ?_, ?_, ?_, ?_, ?_, ?_, ?_, ?_, ?_, ?_, ?_, ?_, ?_, ?_, ?_, ?_, ?_, ?_, ?_, ?_, trivial⟩ ?_
         ·exact fun _ _ h => os rfl ((yl_fieldAddr Tryd.fd74_0 rfl (h.old 6 _ rfl rfl) kI))
         ·exact fun _ _ h => os rfl ((yl_load1 Tryd.ty9 rfl (h.dt 0 52 rfl rfl rfl) (((Box.ex hB156 h.ex).cell 0).trans rfl) kI))
         ·intro L1251 w1252 hi1253
          refine OpR.op' rfl (yl_call Tryd.en47 rfl (opvs_cons (hi1253.dt 1 53 rfl rfl rfl) (opvs_cons rfl opvs_nil)) (Cal.mono (c_i_areLetters ((p_0.Idxs.getD k91 d_Idx).Name) 1 (okL.getD o3.2.2 ok_d_Idx _)) ?_))
          rintro v1257 w1256 ⟨rfl, hE1258⟩
          exact ⟨rfl, hE1258⟩
         ·exact fun _ _ h => os rfl ((yl_not rfl (h.dt 2 54 rfl rfl rfl) kI))
         ·exact fun _ _ h => os rfl ((yl_move rfl (h.dt 3 55 rfl rfl rfl) kI))
         ·exact fun _ _ h => OpR.skip rfl rfl (h.dt 4 56 rfl rfl rfl) (not_f hb159) ⟨rfl, Ex.refl _⟩
         ·exact fun _ _ h => OpR.skip rfl rfl (h.dt 4 56 rfl rfl rfl) (not_f hb159) ⟨rfl, Ex.refl _⟩
         ·exact fun _ _ h => OpR.skip rfl rfl (h.dt 4 56 rfl rfl rfl) (not_f hb159) ⟨rfl, Ex.refl _⟩
         ·exact fun _ _ h => OpR.skip rfl rfl (h.dt 4 56 rfl rfl rfl) (not_f hb159) ⟨rfl, Ex.refl _⟩
         ·exact fun _ _ h => OpR.skip rfl rfl (h.dt 4 56 rfl rfl rfl) (not_f hb159) ⟨rfl, Ex.refl _⟩
         ·exact fun _ _ h => OpR.skip rfl rfl (h.dt 4 56 rfl rfl rfl) (not_f hb159) ⟨rfl, Ex.refl _⟩
         ·exact fun _ _ h => OpR.skip rfl rfl (h.dt 4 56 rfl rfl rfl) (not_f hb159) ⟨rfl, Ex.refl _⟩
         ·exact fun _ _ h => OpR.skip rfl rfl (h.dt 4 56 rfl rfl rfl) (not_f hb159) ⟨rfl, Ex.refl _⟩
         ·exact fun _ _ h => os rfl ((yl_pick_t rfl (h.dt 4 56 rfl rfl rfl) (not_f hb159) rfl kI))
         ·exact fun _ _ h => os rfl ((yl_move rfl (h.dt 13 65 rfl rfl rfl) kI))
         ·exact fun _ _ h => OpR.skip rfl rfl (h.dt 14 66 rfl rfl rfl) rfl ⟨rfl, Ex.refl _⟩
         ·exact fun _ _ h => OpR.skip rfl rfl (h.dt 14 66 rfl rfl rfl) rfl ⟨rfl, Ex.refl _⟩
         ·exact fun _ _ h => OpR.skip rfl rfl (h.dt 14 66 rfl rfl rfl) rfl ⟨rfl, Ex.refl _⟩
         ·exact fun _ _ h => OpR.skip rfl rfl (h.dt 14 66 rfl rfl rfl) rfl ⟨rfl, Ex.refl _⟩
         ·exact fun _ _ h => os rfl ((yl_pick_t rfl (h.dt 14 66 rfl rfl rfl) rfl rfl kI))
         ·exact fun _ _ h => os rfl ((yl_move rfl (h.dt 19 71 rfl rfl rfl) kI))
         ·exact fun _ _ h => OpR.skip rfl rfl (h.dt 20 72 rfl rfl rfl) rfl ⟨rfl, Ex.refl _⟩
         ·exact fun _ _ h => OpR.skip rfl rfl (h.dt 20 72 rfl rfl rfl) rfl ⟨rfl, Ex.refl _⟩
         ·exact fun _ _ h => OpR.skip rfl rfl (h.dt 20 72 rfl rfl rfl) rfl ⟨rfl, Ex.refl _⟩
         ·exact fun _ _ h => OpR.undef rfl rfl (h.dt 23 75 rfl rfl rfl) ⟨rfl, Ex.refl _⟩
         ·exact fun _ _ h => OpR.undef rfl rfl (h.dt 23 75 rfl rfl rfl) ⟨rfl, Ex.refl _⟩
         ·exact fun _ _ h => OpR.undef rfl rfl (h.dt 23 75 rfl rfl rfl) ⟨rfl, Ex.refl _⟩
         ·exact fun _ _ h => OpR.undef rfl rfl (h.dt 23 75 rfl rfl rfl) ⟨rfl, Ex.refl _⟩
         ·exact fun _ _ h => OpR.undef rfl rfl (h.dt 23 75 rfl rfl rfl) ⟨rfl, Ex.refl _⟩
         ·exact fun _ _ h => OpR.undef rfl rfl (h.dt 23 75 rfl rfl rfl) ⟨rfl, Ex.refl _⟩
         ·exact fun _ _ h => OpR.undef rfl rfl (h.dt 23 75 rfl rfl rfl) ⟨rfl, Ex.refl _⟩
         ·exact fun _ _ h => OpR.undef rfl rfl (h.dt 23 75 rfl rfl rfl) ⟨rfl, Ex.refl _⟩
         ·exact fun _ _ h => OpR.undef rfl rfl (h.dt 23 75 rfl rfl rfl) ⟨rfl, Ex.refl _⟩
         ·exact fun _ _ h => OpR.undef rfl rfl (h.dt 23 75 rfl rfl rfl) ⟨rfl, Ex.refl _⟩
         ·exact fun _ _ h => OpR.skip rfl rfl (h.dt 20 72 rfl rfl rfl) rfl ⟨rfl, Ex.refl _⟩
         ·exact fun _ _ h => os rfl ((yl_pick_t rfl (h.dt 20 72 rfl rfl rfl) rfl rfl kI))
         ·intro fl1430 fh1431 L1427 w1428 hp1429
          have hE1432 := hp1429.ex
          have hE1432z := Ex.size hE1432
          refine SeqR.done (tn (CW.sub (Sub.cons (d := 1) (hp1429.old 1 _ rfl rfl) (Sub.cons (d := 45) (hp1429.old 45 _ rfl rfl) (Sub.cons (d := 46) (hp1429.old 46 _ rfl rfl) (Sub.cons (d := 47) (hp1429.old 47 _ rfl rfl) (Sub.cons (d := 57) (hp1429.nt 5 57 rfl rfl rfl) (Sub.cons (d := 58) (hp1429.nt 6 58 rfl rfl rfl) (Sub.cons (d := 59) (hp1429.nt 7 59 rfl rfl rfl) (Sub.cons (d := 60) (hp1429.nt 8 60 rfl rfl rfl) (Sub.cons (d := 61) (hp1429.nt 9 61 rfl rfl rfl) (Sub.cons (d := 62) (hp1429.nt 10 62 rfl rfl rfl) (Sub.cons (d := 63) (hp1429.nt 11 63 rfl rfl rfl) (Sub.cons (d := 64) (hp1429.nt 12 64 rfl rfl rfl) (Sub.cons (d := 67) (hp1429.nt 15 67 rfl rfl rfl) (Sub.cons (d := 68) (hp1429.nt 16 68 rfl rfl rfl) (Sub.cons (d := 69) (hp1429.nt 17 69 rfl rfl rfl) (Sub.cons (d := 70) (hp1429.nt 18 70 rfl rfl rfl) (Sub.cons (d := 73) (hp1429.nt 21 73 rfl rfl rfl) (Sub.cons (d := 74) (hp1429.nt 22 74 rfl rfl rfl) (Sub.cons (d := 75) (hp1429.nt 23 75 rfl rfl rfl) (Sub.cons (d := 76) (hp1429.nt 24 76 rfl rfl rfl) (Sub.cons (d := 77) (hp1429.nt 25 77 rfl rfl rfl) (Sub.cons (d := 78) (hp1429.nt 26 78 rfl rfl rfl) (Sub.cons (d := 79) (hp1429.nt 27 79 rfl rfl rfl) (Sub.cons (d := 80) (hp1429.nt 28 80 rfl rfl rfl) (Sub.cons (d := 81) (hp1429.nt 29 81 rfl rfl rfl) (Sub.cons (d := 82) (hp1429.nt 30 82 rfl rfl rfl) (Sub.cons (d := 83) (hp1429.nt 31 83 rfl rfl rfl) (Sub.cons (d := 84) (hp1429.nt 32 84 rfl rfl rfl) (Sub.cons (d := 85) (hp1429.nt 33 85 rfl rfl rfl) (Sub.cons (d := 86) (hp1429.nt 34 86 rfl rfl rfl) (Sub.cons (d := 87) (hp1429.nt 35 87 rfl rfl rfl) (Sub.nil _)))))))))))))))))))))))))))))))) ?_))
          refine CW.cond_t rfl rfl (CW.seq (CW.region (sd rfl (yl_assign rfl rfl (SeqR.done (tn (CW.ret (br (tr ?_)))))))))
          refine tr ?_
          have hB1465 : B_i_GoodTable_1 p_0 k91 () = .ret false := by simp only [B_i_GoodTable_1, hb16, hb21, hb23, hb159, hL90, cond_true, cond_false, loopE_done, loopE_ret]
          have hL1464 : loopM (B_i_GoodTable_1 p_0) (p_0.Idxs.length - 0) 0 () = .ret false := hI136.symm.trans (loopM.ret hlt147 hB1465)
          refine br (tr (rr rfl (.cons rfl .nil) ?_))
          have hM1466 : (i_GoodTable p_0) = (false) := by simp only [i_GoodTable, hb16, hb21, hb23, hb159, hL90, hL1464, cond_true, cond_false, loopE_done, loopE_ret]
          rw [hM1466]
          exact ⟨rfl, (Ex.trans (Below.only (Ex.trans hf145 hE154) hO157 (by omega)) hE1432)⟩
       ·refine CW.seq (CW.region (sd rfl (yl_lss rfl rfl rfl (SeqR.done (tn (CW.seq (CW.cond_f rfl (lt_f hlt147) (CW.exit (tx ?_)))))))))
        refine tx ?_
        have hL1470 : loopM (B_i_GoodTable_1 p_0) (p_0.Idxs.length - 0) 0 () = .done () := hI136.symm.trans (loopM.stop hlt147)
        refine bx (tn (CW.seq (CW.region (sd rfl (yl_assign rfl rfl (SeqR.done (tn (CW.ret (rr rfl (.cons rfl .nil) ?_)))))))))
        have hM1471 : (i_GoodTable p_0) = (true) := by simp only [i_GoodTable, hb16, hb21, hb23, hL90, hL1470, cond_true, cond_false, loopE_done, loopE_ret]
        rw [hM1471]
        exact ⟨rfl, hf145⟩
  ·refine sz rfl rfl (not_f hb21) (sz rfl rfl (not_f hb21) (sz rfl rfl (not_f hb21) (sz rfl rfl (not_f hb21) (sd rfl (yl_pick_t rfl rfl (not_f hb21) rfl (SeqR.done (tn (CW.cond_t rfl rfl (CW.seq ?_)))))))))
   refine CW.region (sd rfl (yl_assign rfl rfl (SeqR.done (tn (CW.ret (tr (rr rfl (.cons rfl .nil) ?_)))))))
   have hM1472 : (i_GoodTable p_0) = (false) := by simp only [i_GoodTable, hb16, hb21, cond_true, cond_false, loopE_done, loopE_ret]
   rw [hM1472]
   exact ⟨rfl, (Ex.trans (Ex.trans (Ex.trans (Ex.refl w) hE12) hE15) hE20)⟩
 ·refine sz rfl rfl (not_f hb16) (sz rfl rfl (not_f hb16) (sz rfl rfl (not_f hb16) (sz rfl rfl (not_f hb16) (sz rfl rfl (not_f hb16) (sd rfl (yl_pick_t rfl rfl (not_f hb16) rfl (sd rfl (yl_move rfl rfl (sz rfl rfl rfl (sz rfl rfl rfl ?_))))))))))
  refine sz rfl rfl rfl (sz rfl rfl rfl (sd rfl (yl_pick_t rfl rfl rfl rfl (SeqR.done (tn (CW.cond_t rfl rfl (CW.seq (CW.region (sd rfl (yl_assign rfl rfl ?_))))))))))
  refine SeqR.done (tn (CW.ret (tr (rr rfl (.cons rfl .nil) ?_))))
  have hM1476 : (i_GoodTable p_0) = (false) := by simp only [i_GoodTable, hb16, cond_true, cond_false, loopE_done, loopE_ret]
  rw [hM1476]
  exact ⟨rfl, (Ex.trans (Ex.trans (Ex.refl w) hE12) hE15)⟩
set_option maxRecDepth 100000 in
set_option maxHeartbeats 2000000 in
theorem c_g_internal_stringslite_IndexByte {w : World} (p_s : Str) (p_c : Int) (o1 : okS p_s) : Cal Tryd.prog 103 #[.string (bs (p_s)), .int .u8 (p_c)] w fun v w' => v = .int .i64 ((g_internal_stringslite_IndexByte p_s p_c)) ∧ Ex w w' := by
 have hol2 : p_s.length ≤ 1073741824 := o1
 refine Cal.of (vs := [.string (bs (p_s)), .int .u8 (p_c)]) Tryd.func103 rfl Tryd.ntmps103 rfl (CW.seq (CW.region (sd rfl (yl_assign rfl rfl (SeqR.done (tn (CW.seq (CW.region (sd rfl (yl_move rfl rfl ?_))))))))))
 refine sd rfl (yl_move rfl rfl (sd rfl (yl_idxB (s := p_s) (c := p_c) Tryd.ex109 rfl (opvs_cons rfl (opvs_cons rfl opvs_nil)) (sd rfl (yl_assign rfl rfl (SeqR.done (tn (CW.ret (rr rfl (.cons rfl .nil) ?_)))))))))
 have hM3 : (g_internal_stringslite_IndexByte p_s p_c) = (idxB p_s p_c) := by simp only [g_internal_stringslite_IndexByte, cond_true, cond_false, loopE_done, loopE_ret]
 rw [hM3]
 exact ⟨rfl, (Ex.refl w)⟩
set_option maxRecDepth 100000 in
set_option maxHeartbeats 2000000 in
theorem c_g_internal_bytealg_Cutover {w : World} (p_n : Int) : Cal Tryd.prog 105 #[.int .i64 (p_n)] w fun v w' => v = .int .i64 ((g_internal_bytealg_Cutover p_n)) ∧ Ex w w' := by
 refine Cal.of (vs := [.int .i64 (p_n)]) Tryd.func105 rfl Tryd.ntmps105 rfl (CW.seq (CW.region (sd rfl (yl_assign rfl rfl (SeqR.done (tn (CW.seq (CW.region (sd rfl (yl_move rfl rfl ?_))))))))))
 refine sd rfl (yl_add rfl rfl rfl (sd rfl (yl_quo rfl rfl rfl (by decide) (sd rfl (yl_assign rfl rfl (SeqR.done (tn (CW.ret (rr rfl (.cons rfl .nil) ?_)))))))))
 have hM1 : (g_internal_bytealg_Cutover p_n) = (IntKind.wrap .i64 (Int.tdiv (IntKind.wrap .i64 (p_n + 16)) 8)) := by simp only [g_internal_bytealg_Cutover, cond_true, cond_false, loopE_done, loopE_ret]
 rw [hM1]
 exact ⟨rfl, (Ex.refl w)⟩
set_option maxRecDepth 100000 in
set_option maxHeartbeats 2000000 in
theorem c_g_internal_stringslite_Index {w : World} (p_0 : Str) (p_1 : Str) (o1 : okS p_0) (o2 : okS p_1) (pre0 : p_1.length = 1) : Cal Tryd.prog 97 #[.string (bs (p_0)), .string (bs (p_1))] w fun v w' => v = .int .i64 ((g_internal_stringslite_Index p_0 p_1)) ∧ Ex w w' := by
 have hol3 : p_0.length ≤ 1073741824 := o1
 have hol4 : p_1.length ≤ 1073741824 := o2
 refine Cal.of (vs := [.string (bs (p_0)), .string (bs (p_1))]) Tryd.func97 rfl Tryd.ntmps97 rfl (CW.seq (CW.region (sd rfl (yl_assign rfl rfl (SeqR.done (tn (CW.seq (CW.region (sd rfl (yl_move rfl rfl ?_))))))))))
 refine sd rfl (yl_slen Tryd.un9 (a := p_1) rfl rfl (sd rfl (yl_assign rfl rfl (SeqR.done (tn (CW.seq (CW.block (CW.seq (CW.region (sd rfl (yl_move rfl rfl ?_)))))))))))
 refine sd rfl (yl_eql rfl rfl rfl (sd rfl (yl_move rfl rfl (sy rfl rfl (decide_eq_false (by omega)) (yl_move rfl rfl (sy rfl rfl (decide_eq_false (by omega)) (yl_move rfl rfl (sy rfl rfl (decide_eq_false (by omega)) (yl_seql (a := p_1) (b := p_0) rfl rfl rfl (sd rfl (yl_pick_f rfl rfl (decide_eq_false (by omega)) rfl (sd rfl (yl_assign rfl rfl (SeqR.done (tn ?_)))))))))))))))
 refine bcase (p_1 == p_0) (fun hb5 => ?_) (fun hb5 => ?_)
 ·refine CW.cond_t rfl hb5 (CW.seq (CW.region (sd rfl (yl_assign rfl rfl (SeqR.done (tn (CW.ret (br (tr ?_)))))))))
  refine rr rfl (.cons rfl .nil) ?_
  have hM6 : (g_internal_stringslite_Index p_0 p_1) = (0) := by simp only [g_internal_stringslite_Index, hb5, cond_true, cond_false, loopE_done, loopE_ret]
  rw [hM6]
  exact ⟨rfl, (Ex.refl w)⟩
 ·refine CW.cond_f rfl hb5 (CW.seq (CW.region (sd rfl (yl_move rfl rfl (sd rfl (yl_eql rfl rfl rfl (sd rfl (yl_assign rfl rfl (SeqR.done (tn (CW.cond_t rfl (decide_eq_true (by omega)) ?_)))))))))))
  refine CW.seq (CW.region (sd rfl (yl_move rfl rfl (sd rfl (yl_move rfl rfl (sd rfl (yl_sindexN Tryd.un9 (a := p_1) rfl rfl rfl (by first | omega | assumption | (simp only [IntKind.wrap_i64] at *; omega)) (sd rfl (yl_call Tryd.en103 rfl (opvs_cons rfl (opvs_cons rfl opvs_nil)) (Cal.mono (c_g_internal_stringslite_IndexByte p_0 ((p_1.getD 0 0).toNat : Int) o1) ?_))))))))))
  rintro v8 w7 ⟨rfl, hE9⟩
  have hE9z := Ex.size hE9
  refine sd rfl (yl_assign rfl rfl (SeqR.done (tn (CW.ret (br (tr (rr rfl (.cons rfl .nil) ?_)))))))
  have hM10 : (g_internal_stringslite_Index p_0 p_1) = ((g_internal_stringslite_IndexByte p_0 ((p_1.getD 0 0).toNat : Int))) := by simp only [g_internal_stringslite_Index, hb5, cond_true, cond_false, loopE_done, loopE_ret]
  rw [hM10]
  exact ⟨rfl, (Ex.trans (Ex.refl w) hE9)⟩
set_option maxRecDepth 100000 in
set_option maxHeartbeats 2000000 in
theorem c_g_strings_Index {w : World} (p_s : Str) (p_substr : Str) (o1 : okS p_s) (o2 : okS p_substr) (pre0 : p_substr.length = 1) : Cal Tryd.prog 86 #[.string (bs (p_s)), .string (bs (p_substr))] w fun v w' => v = .int .i64 ((g_strings_Index p_s p_substr)) ∧ Ex w w' := by
 have hol3 : p_s.length ≤ 1073741824 := o1
 have hol4 : p_substr.length ≤ 1073741824 := o2
 refine Cal.of (vs := [.string (bs (p_s)), .string (bs (p_substr))]) Tryd.func86 rfl Tryd.ntmps86 rfl (CW.seq (CW.region (sd rfl (yl_assign rfl rfl (SeqR.done (tn (CW.seq (CW.region (sd rfl (yl_move rfl rfl ?_))))))))))
 refine sd rfl (yl_move rfl rfl (sd rfl (yl_call Tryd.en97 rfl (opvs_cons rfl (opvs_cons rfl opvs_nil)) (Cal.mono (c_g_internal_stringslite_Index p_s p_substr o1 o2 (by first | omega | assumption | (simp only [IntKind.wrap_i64] at *; omega))) ?_))))
 rintro v6 w5 ⟨rfl, hE7⟩
 have hE7z := Ex.size hE7
 have hrf8 := rf_Index (s := p_s) (sub := p_substr) (by first | omega | assumption | (simp only [IntKind.wrap_i64] at *; omega))
 refine sd rfl (yl_assign rfl rfl (SeqR.done (tn (CW.ret (rr rfl (.cons rfl .nil) ?_)))))
 have hM9 : (g_strings_Index p_s p_substr) = ((g_internal_stringslite_Index p_s p_substr)) := by simp only [g_strings_Index, cond_true, cond_false, loopE_done, loopE_ret]
 rw [hM9]
 exact ⟨rfl, (Ex.trans (Ex.refl w) hE7)⟩
set_option maxRecDepth 100000 in
set_option maxHeartbeats 2000000 in
theorem c_i_rowOf {w : World} (p_text : Str) (o1 : okS p_text) : Cal Tryd.prog 60 #[.string (bs (p_text))] w fun v w' => ∃ A_1 c_1 lo_1 hi_1, v = .agg #[.slice A_1 (((i_rowOf p_text).Vals).length) c_1] ∧ OwnL w' lo_1 hi_1 9 1 (RF e_Str) A_1 (((i_rowOf p_text).Vals).length) c_1 ((i_rowOf p_text).Vals) ∧ ok_Row (i_rowOf p_text) ∧ (w.heap.size ≤ lo_1 ∧ lo_1 ≤ hi_1 ∧ hi_1 ≤ w'.heap.size) ∧ Ex w w' := by
 have hol2 : p_text.length ≤ 1073741824 := o1
 refine Cal.of (vs := [.string (bs (p_text))]) Tryd.func60 rfl Tryd.ntmps60 rfl (CW.seq (CW.region (sd rfl (yl_alloc Tryd.ty31 (cs := [.slice none 0 0]) rfl rfl ?_))))
 intro b3 w4 hs5 hz6 hB7 hE8
 refine SeqR.done (tn (CW.seq (CW.region (sd rfl (yl_move rfl rfl (sd rfl (yl_call Tryd.en52 rfl (opvs_cons rfl (opvs_cons rfl opvs_nil)) (Cal.mono (c_g_strings_Split p_text ([44] : Str) o1 (okS.lit rfl) rfl) ?_))))))))
 rintro v12 w9 ⟨A10, c10, lo10, hi10, rfl, h10, ho11, hrn14, hE13⟩
 have hE13z := Ex.size hE13
 have hrf15 := rf_Split p_text ([44] : Str)
 refine sd rfl (yl_build (cs := [.slice A10 ((g_strings_Split p_text ([44] : Str)).length) c10]) rfl (opvs_cons rfl opvs_nil) (by kernel_rfl) (SeqR.u rfl rfl (yl_store (vs := [.slice A10 ((g_strings_Split p_text ([44] : Str)).length) c10]) Tryd.ty31 rfl rfl rfl rfl rfl rfl (Box.ex hB7 hE13) (Nat.le_of_ble_eq_true rfl) ?_)))
 intro w17 hB18 hO19
 have hB18 : Box w17 b3 31 [.slice A10 ((g_strings_Split p_text ([44] : Str)).length) c10] := hB18
 have hO19z := hO19.size
 refine SeqR.done (tn (CW.ret (rr rfl (.cons ⟨_, rfl, run_loadN Tryd.ty31 (cs := [.slice A10 ((g_strings_Split p_text ([44] : Str)).length) c10]) rfl (hB18.cells (n := 1) rfl)⟩ .nil) ?_)))
 have hM20 : (i_rowOf p_text) = ((⟨(g_strings_Split p_text ([44] : Str))⟩ : DRow)) := by simp only [i_rowOf, cond_true, cond_false, loopE_done, loopE_ret]
 rw [hM20]
 exact ⟨A10, c10, lo10, hi10, rfl, (OwnL.only good_Str h10 hO19 (by omega)), ho11, (by omega), (Below.only (Ex.trans (Ex.trans (Ex.refl w) hE8) hE13) hO19 (by omega))⟩
set_option maxRecDepth 100000 in
set_option maxHeartbeats 2000000 in
theorem c_i_isLowerOrDigit {w : World} (p_b : Int) : Cal Tryd.prog 98 #[.int .u8 (p_b)] w fun v w' => v = .bool ((i_isLowerOrDigit p_b)) ∧ Ex w w' := by
 refine Cal.of (vs := [.int .u8 (p_b)]) Tryd.func98 rfl Tryd.ntmps98 rfl (CW.seq (CW.region (sd rfl (yl_assign rfl rfl (SeqR.done (tn (CW.seq (CW.region (sd rfl (yl_move rfl rfl ?_))))))))))
 refine sd rfl (yl_geq rfl rfl rfl (sd rfl (yl_move rfl rfl (bcase (decide (97 ≤ p_b)) (fun hb1 => ?_) (fun hb1 => ?_)))))
 ·have hb1p := dec_t hb1
  refine sy rfl rfl hb1 (yl_move rfl rfl (sy rfl rfl hb1 (yl_leq rfl rfl rfl (sd rfl (yl_pick_t rfl rfl hb1 rfl (sd rfl (yl_move rfl rfl (bcase (decide (p_b ≤ 122)) (fun hb2 => ?_) (fun hb2 => ?_)))))))))
  ·have hb2p := dec_t hb2
   refine sz rfl rfl hb2 (sz rfl rfl hb2 (sz rfl rfl hb2 (sq rfl rfl (sq rfl rfl (sz rfl rfl hb2 (sd rfl (yl_pick_t rfl rfl hb2 rfl (sd rfl (yl_assign rfl rfl (SeqR.done ?_))))))))))
   refine tn (CW.ret (rr rfl (.cons rfl .nil) ?_))
   have hM3 : (i_isLowerOrDigit p_b) = (true) := by simp only [i_isLowerOrDigit, hb1, hb2, cond_true, cond_false, loopE_done, loopE_ret]
   rw [hM3]
   exact ⟨rfl, (Ex.refl w)⟩
  ·have hb2p := dec_f hb2
   refine sy rfl rfl hb2 (yl_move rfl rfl (sy rfl rfl hb2 (yl_geq rfl rfl rfl (sy rfl rfl hb2 (yl_move rfl rfl (bcase (decide (48 ≤ p_b)) (fun hb4 => ?_) (fun hb4 => ?_)))))))
   ·have hb4p := dec_t hb4
    refine sy rfl rfl hb4 (yl_move rfl rfl (sy rfl rfl hb4 (yl_leq rfl rfl rfl (sy rfl rfl hb2 (yl_pick_t rfl rfl hb4 rfl (sd rfl (yl_pick_f rfl rfl hb2 rfl (sd rfl (yl_assign rfl rfl (SeqR.done (tn (CW.ret (rr rfl (.cons rfl .nil) ?_)))))))))))))
    have hM5 : (i_isLowerOrDigit p_b) = (decide (p_b ≤ 57)) := by simp only [i_isLowerOrDigit, hb1, hb2, hb4, cond_true, cond_false, loopE_done, loopE_ret]
    rw [hM5]
    exact ⟨rfl, (Ex.refl w)⟩
   ·have hb4p := dec_f hb4
    refine sz rfl rfl hb4 (sz rfl rfl hb4 (sy rfl rfl hb2 (yl_pick_f rfl rfl hb4 rfl (sd rfl (yl_pick_f rfl rfl hb2 rfl (sd rfl (yl_assign rfl rfl (SeqR.done (tn (CW.ret (rr rfl (.cons rfl .nil) ?_)))))))))))
    have hM6 : (i_isLowerOrDigit p_b) = (false) := by simp only [i_isLowerOrDigit, hb1, hb2, hb4, cond_true, cond_false, loopE_done, loopE_ret]
    rw [hM6]
    exact ⟨rfl, (Ex.refl w)⟩
 ·have hb1p := dec_f hb1
  refine sz rfl rfl hb1 (sz rfl rfl hb1 (sd rfl (yl_pick_f rfl rfl hb1 rfl (sd rfl (yl_move rfl rfl (sy rfl rfl rfl (yl_move rfl rfl (sy rfl rfl rfl (yl_geq rfl rfl rfl (sy rfl rfl rfl (yl_move rfl rfl (bcase (decide (48 ≤ p_b)) (fun hb7 => ?_) (fun hb7 => ?_)))))))))))))
  ·have hb7p := dec_t hb7
   refine sy rfl rfl hb7 (yl_move rfl rfl (sy rfl rfl hb7 (yl_leq rfl rfl rfl (sy rfl rfl rfl (yl_pick_t rfl rfl hb7 rfl (sd rfl (yl_pick_f rfl rfl rfl rfl (sd rfl (yl_assign rfl rfl (SeqR.done (tn (CW.ret (rr rfl (.cons rfl .nil) ?_)))))))))))))
   have hM8 : (i_isLowerOrDigit p_b) = (decide (p_b ≤ 57)) := by simp only [i_isLowerOrDigit, hb1, hb7, cond_true, cond_false, loopE_done, loopE_ret]
   rw [hM8]
   exact ⟨rfl, (Ex.refl w)⟩
  ·have hb7p := dec_f hb7
   refine sz rfl rfl hb7 (sz rfl rfl hb7 (sy rfl rfl rfl (yl_pick_f rfl rfl hb7 rfl (sd rfl (yl_pick_f rfl rfl rfl rfl (sd rfl (yl_assign rfl rfl (SeqR.done (tn (CW.ret (rr rfl (.cons rfl .nil) ?_)))))))))))
   have hM9 : (i_isLowerOrDigit p_b) = (false) := by simp only [i_isLowerOrDigit, hb1, hb7, cond_true, cond_false, loopE_done, loopE_ret]
   rw [hM9]
   exact ⟨rfl, (Ex.refl w)⟩
set_option maxRecDepth 100000 in
set_option maxHeartbeats 2000000 in
theorem c_g_strings_IndexByte {w : World} (p_s : Str) (p_c : Int) (o1 : okS p_s) : Cal Tryd.prog 99 #[.string (bs (p_s)), .int .u8 (p_c)] w fun v w' => v = .int .i64 ((g_strings_IndexByte p_s p_c)) ∧ Ex w w' := by
 have hol2 : p_s.length ≤ 1073741824 := o1
 refine Cal.of (vs := [.string (bs (p_s)), .int .u8 (p_c)]) Tryd.func99 rfl Tryd.ntmps99 rfl (CW.seq (CW.region (sd rfl (yl_assign rfl rfl (SeqR.done (tn (CW.seq (CW.region (sd rfl (yl_move rfl rfl ?_))))))))))
 refine sd rfl (yl_move rfl rfl (sd rfl (yl_call Tryd.en103 rfl (opvs_cons rfl (opvs_cons rfl opvs_nil)) (Cal.mono (c_g_internal_stringslite_IndexByte p_s p_c o1) ?_))))
 rintro v4 w3 ⟨rfl, hE5⟩
 have hE5z := Ex.size hE5
 refine sd rfl (yl_assign rfl rfl (SeqR.done (tn (CW.ret (rr rfl (.cons rfl .nil) ?_)))))
 have hM6 : (g_strings_IndexByte p_s p_c) = ((g_internal_stringslite_IndexByte p_s p_c)) := by simp only [g_strings_IndexByte, cond_true, cond_false, loopE_done, loopE_ret]
 rw [hM6]
 exact ⟨rfl, (Ex.trans (Ex.refl w) hE5)⟩
set_option maxRecDepth 100000 in
set_option maxHeartbeats 2000000 in
theorem c_i_hasBytes {w : World} (p_s : Str) (p_others : Str) (o1 : okS p_s) (o2 : okS p_others) : Cal Tryd.prog 88 #[.string (bs (p_s)), .string (bs (p_others))] w fun v w' => v = .bool ((i_hasBytes p_s p_others)) ∧ Ex w w' := by
 have hol3 : p_s.length ≤ 1073741824 := o1
 have hol4 : p_others.length ≤ 1073741824 := o2
 refine Cal.of (vs := [.string (bs (p_s)), .string (bs (p_others))]) Tryd.func88 rfl Tryd.ntmps88 rfl (CW.seq (CW.region (sd rfl (yl_assign rfl rfl (SeqR.done (tn (CW.seq (CW.seq (CW.region ?_)))))))))
 refine sd rfl (yl_move rfl rfl (sd rfl (yl_slen Tryd.un9 (a := p_s) rfl rfl (sd rfl (yl_move rfl rfl (SeqR.done (tn (CW.block (CW.loop (fun m6 L7 w8 => ∃ (k5 : Nat), m6 = p_s.length - k5 ∧ k5 ≤ p_s.length ∧ w.heap.size ≤ w8.heap.size ∧ lkp L7 0 = some (.string (bs (p_s))) ∧ lkp L7 1 = some (.string (bs (p_others))) ∧ lkp L7 7 = some (.int .i64 ((p_s.length : Int))) ∧ lkp L7 8 = some (.int .i64 ((k5 : Int))) ∧ Ex w w8 ∧ loopM (B_i_hasBytes_0 p_s p_others) (p_s.length - k5) k5 () = loopM (B_i_hasBytes_0 p_s p_others) (p_s.length - 0) 0 ()) (p_s.length - 0) ?_ ?_)))))))))
 ·exact ⟨0, rfl, (by omega), Nat.le_refl _, rfl, rfl, rfl, rfl, (Ex.refl w), rfl⟩
 ·rintro m9 L10 w11 ⟨k5, rfl, hk12, hsz14, hl15, hl16, hl17, hl18, hf19, hI13⟩
  refine CW.sub (Sub.cons hl15 (Sub.cons hl16 (Sub.cons hl17 (Sub.cons hl18 (Sub.nil _))))) ?_
  have hf19z := Ex.size hf19
  have hbg20 : p_s.length ≤ 1073741824 := o1
  rcases Nat.lt_or_ge k5 p_s.length with hlt21 | hlt21
  ·refine CW.seq (CW.region (sd rfl (yl_lss rfl rfl rfl (SeqR.done (tn (CW.seq (CW.cond_t rfl (lt_t hlt21) (CW.skip (tn ?_)))))))))
   refine CW.seq (CW.block (CW.seq (CW.region (sd rfl (yl_move rfl rfl (sd rfl (yl_assign rfl rfl (SeqR.done (tn (CW.seq ?_))))))))))
   refine CW.region (sd rfl (yl_move rfl rfl (sd rfl (yl_move rfl rfl (sd rfl (yl_sindexN Tryd.un9 (a := p_s) rfl rfl rfl (by first | omega | assumption | (simp only [IntKind.wrap_i64] at *; omega)) (sd rfl (yl_call Tryd.en98 rfl (opvs_cons rfl opvs_nil) (Cal.mono (c_i_isLowerOrDigit ((p_s.getD k5 0).toNat : Int)) ?_)))))))))
   rintro v23 w22 ⟨rfl, hE24⟩
   have hE24z := Ex.size hE24
   refine sd rfl (yl_not rfl rfl (sd rfl (yl_move rfl rfl (bcase (i_isLowerOrDigit ((p_s.getD k5 0).toNat : Int)) (fun hb25 => ?_) (fun hb25 => ?_)))))
   ·refine sz rfl rfl (not_t hb25) (sz rfl rfl (not_t hb25) (sz rfl rfl (not_t hb25) (sz rfl rfl (not_t hb25) (sz rfl rfl (not_t hb25) (sz rfl rfl (not_t hb25) (sd rfl (yl_pick_f rfl rfl (not_t hb25) rfl (SeqR.done (tn ?_)))))))))
    refine CW.cond_f rfl rfl (CW.skip (bn (tn (CW.region (sd rfl (yl_inc rfl rfl rfl (by omega) (sd rfl (yl_move rfl rfl (SeqR.done (tn ?_))))))))))
    have hB26 : B_i_hasBytes_0 p_s p_others k5 () = .cont () := by simp only [B_i_hasBytes_0, hb25, cond_true, cond_false, loopE_done, loopE_ret]
    exact ⟨p_s.length - (k5 + 1), by omega, k5 + 1, rfl, hlt21, (by omega), rfl, rfl, rfl, rfl, (Ex.trans hf19 hE24), (loopM.cont hlt21 hB26).symm.trans hI13⟩
   ·refine sy rfl rfl (not_f hb25) (yl_move rfl rfl (sy rfl rfl (not_f hb25) (yl_move rfl rfl (sy rfl rfl (not_f hb25) (yl_move rfl rfl (sy rfl rfl (not_f hb25) (yl_sindexN Tryd.un9 (a := p_s) rfl rfl rfl (by first | omega | assumption | (simp only [IntKind.wrap_i64] at *; omega)) (sy rfl rfl (not_f hb25) (yl_call Tryd.en99 rfl (opvs_cons rfl (opvs_cons rfl opvs_nil)) (Cal.mono (c_g_strings_IndexByte p_others ((p_s.getD k5 0).toNat : Int) o2) ?_))))))))))
    rintro v29 w28 ⟨rfl, hE30⟩
    have hE30z := Ex.size hE30
    refine sy rfl rfl (not_f hb25) (yl_lss rfl rfl rfl (sd rfl (yl_pick_t rfl rfl (not_f hb25) rfl (SeqR.done (tn (bcase (decide ((g_strings_IndexByte p_others ((p_s.getD k5 0).toNat : Int)) < 0)) (fun hb31 => ?_) (fun hb31 => ?_)))))))
    ·have hb31p := dec_t hb31
     refine CW.cond_t rfl hb31 (CW.seq (CW.region (sd rfl (yl_assign rfl rfl (SeqR.done (tn (CW.ret (br (tr ?_)))))))))
     refine tr ?_
     have hB33 : B_i_hasBytes_0 p_s p_others k5 () = .ret false := by simp only [B_i_hasBytes_0, hb25, hb31, cond_true, cond_false, loopE_done, loopE_ret]
     have hL32 : loopM (B_i_hasBytes_0 p_s p_others) (p_s.length - 0) 0 () = .ret false := hI13.symm.trans (loopM.ret hlt21 hB33)
     refine br (tr (rr rfl (.cons rfl .nil) ?_))
     have hM34 : (i_hasBytes p_s p_others) = (false) := by simp only [i_hasBytes, hb25, hb31, hL32, cond_true, cond_false, loopE_done, loopE_ret]
     rw [hM34]
     exact ⟨rfl, (Ex.trans (Ex.trans hf19 hE24) hE30)⟩
    ·have hb31p := dec_f hb31
     refine CW.cond_f rfl hb31 (CW.skip (bn (tn (CW.region (sd rfl (yl_inc rfl rfl rfl (by omega) (sd rfl (yl_move rfl rfl (SeqR.done (tn ?_))))))))))
     have hB37 : B_i_hasBytes_0 p_s p_others k5 () = .cont () := by simp only [B_i_hasBytes_0, hb25, hb31, cond_true, cond_false, loopE_done, loopE_ret]
     exact ⟨p_s.length - (k5 + 1), by omega, k5 + 1, rfl, hlt21, (by omega), rfl, rfl, rfl, rfl, (Ex.trans (Ex.trans hf19 hE24) hE30), (loopM.cont hlt21 hB37).symm.trans hI13⟩
  ·refine CW.seq (CW.region (sd rfl (yl_lss rfl rfl rfl (SeqR.done (tn (CW.seq (CW.cond_f rfl (lt_f hlt21) (CW.exit (tx ?_)))))))))
   refine tx ?_
   have hL40 : loopM (B_i_hasBytes_0 p_s p_others) (p_s.length - 0) 0 () = .done () := hI13.symm.trans (loopM.stop hlt21)
   refine bx (tn (CW.seq (CW.region (sd rfl (yl_assign rfl rfl (SeqR.done (tn (CW.ret (rr rfl (.cons rfl .nil) ?_)))))))))
   have hM41 : (i_hasBytes p_s p_others) = (true) := by simp only [i_hasBytes, hL40, cond_true, cond_false, loopE_done, loopE_ret]
   rw [hM41]
   exact ⟨rfl, hf19⟩
set_option maxRecDepth 100000 in
set_option maxHeartbeats 2000000 in
theorem c_i_isField {w : World} (p_s : Str) (o1 : okS p_s) : Cal Tryd.prog 71 #[.string (bs (p_s))] w fun v w' => v = .bool ((i_isField p_s)) ∧ Ex w w' := by
 have hol2 : p_s.length ≤ 1073741824 := o1
 refine Cal.of (vs := [.string (bs (p_s))]) Tryd.func71 rfl Tryd.ntmps71 rfl (CW.seq (CW.region (sd rfl (yl_assign rfl rfl (SeqR.done (tn (CW.seq (CW.region (sd rfl (yl_move rfl rfl ?_))))))))))
 refine sd rfl (yl_slen Tryd.un9 (a := p_s) rfl rfl (sd rfl (yl_call Tryd.en48 rfl (opvs_cons rfl (opvs_cons rfl (opvs_cons rfl opvs_nil))) (Cal.mono (c_i_within (p_s.length : Int) 1 3) ?_))))
 rintro v4 w3 ⟨rfl, hE5⟩
 have hE5z := Ex.size hE5
 refine sd rfl (yl_move rfl rfl (bcase (i_within (p_s.length : Int) 1 3) (fun hb6 => ?_) (fun hb6 => ?_)))
 ·have hb6p := f_within hb6
  refine sy rfl rfl hb6 (yl_move rfl rfl (sy rfl rfl hb6 (yl_call Tryd.en88 rfl (opvs_cons rfl (opvs_cons rfl opvs_nil)) (Cal.mono (c_i_hasBytes p_s ([] : Str) o1 (okS.lit rfl)) ?_))))
  rintro v8 w7 ⟨rfl, hE9⟩
  have hE9z := Ex.size hE9
  refine sd rfl (yl_pick_t rfl rfl hb6 rfl (sd rfl (yl_assign rfl rfl (SeqR.done (tn (CW.ret (rr rfl (.cons rfl .nil) ?_)))))))
  have hM10 : (i_isField p_s) = ((i_hasBytes p_s ([] : Str))) := by simp only [i_isField, hb6, cond_true, cond_false, loopE_done, loopE_ret]
  rw [hM10]
  exact ⟨rfl, (Ex.trans (Ex.trans (Ex.refl w) hE5) hE9)⟩
 ·refine sz rfl rfl hb6 (sz rfl rfl hb6 (sd rfl (yl_pick_f rfl rfl hb6 rfl (sd rfl (yl_assign rfl rfl (SeqR.done (tn (CW.ret (rr rfl (.cons rfl .nil) ?_)))))))))
  have hM13 : (i_isField p_s) = (false) := by simp only [i_isField, hb6, cond_true, cond_false, loopE_done, loopE_ret]
  rw [hM13]
  exact ⟨rfl, (Ex.trans (Ex.refl w) hE5)⟩
set_option maxRecDepth 100000 in
set_option maxHeartbeats 2000000 in
theorem c_g_slices_IndexFunc_string {A1 : Option Addr} {c1 : Nat} {g3 : Nat} {cp4 : List Value} {w : World} (p_s : List Str) (p_f : Str → Bool) (h1 : RdS w (Iv 0 w.heap.size) (RF e_Str) 1 A1 p_s.length c1 p_s) (hen5 : Go.X.Enters Tryd.prog g3) (hfn6 : ∀ (w1 : World) (y0 : Str), Ex w w1 → y0 ∈ p_s → okS y0 → Cal Tryd.prog g3 (([.string (bs (y0))] : List Value) ++ cp4).toArray w1 fun v w2 => v = .bool (p_f y0) ∧ Ex w1 w2) (o2 : (okL okS) p_s) : Cal Tryd.prog 87 #[.slice A1 p_s.length c1, .func (.func g3) #[] cp4.toArray] w fun v w' => v = .int .i64 ((g_slices_IndexFunc_string p_s p_f)) ∧ Ex w w' := by
 have hol7 := o2.1
 refine Cal.of (vs := [.slice A1 p_s.length c1, .func (.func g3) #[] cp4.toArray]) Tryd.func87 rfl Tryd.ntmps87 rfl (CW.seq (CW.region (sd rfl (yl_assign rfl rfl (SeqR.done (tn (CW.seq (CW.seq (CW.region ?_)))))))))
 refine sd rfl (yl_move rfl rfl (sd rfl (yl_len Tryd.un22 rfl rfl (sd rfl (yl_move rfl rfl (SeqR.done (tn (CW.block (CW.loop (fun m9 L10 w11 => ∃ (k8 : Nat), m9 = p_s.length - k8 ∧ k8 ≤ p_s.length ∧ w.heap.size ≤ w11.heap.size ∧ lkp L10 0 = some (.slice A1 p_s.length c1) ∧ lkp L10 1 = some (.func (.func g3) #[] cp4.toArray) ∧ lkp L10 7 = some (.int .i64 ((p_s.length : Int))) ∧ lkp L10 8 = some (.int .i64 ((k8 : Int))) ∧ RdS w11 (Iv 0 w.heap.size) (RF e_Str) 1 A1 p_s.length c1 p_s ∧ Ex w w11 ∧ loopM (B_g_slices_IndexFunc_string_0 p_s p_f) (p_s.length - k8) k8 () = loopM (B_g_slices_IndexFunc_string_0 p_s p_f) (p_s.length - 0) 0 ()) (p_s.length - 0) ?_ ?_)))))))))
 ·exact ⟨0, rfl, (by omega), Nat.le_refl _, rfl, rfl, rfl, rfl, h1, (Ex.refl w), rfl⟩
 ·rintro m12 L13 w14 ⟨k8, rfl, hk15, hsz17, hl18, hl19, hl20, hl21, hf22, hf23, hI16⟩
  refine CW.sub (Sub.cons hl18 (Sub.cons hl19 (Sub.cons hl20 (Sub.cons hl21 (Sub.nil _))))) ?_
  have hf23z := Ex.size hf23
  have hbg24 := RdS.big hf22
  rcases Nat.lt_or_ge k8 p_s.length with hlt25 | hlt25
  ·refine CW.seq (CW.region (sd rfl (yl_lss rfl rfl rfl (SeqR.done (tn (CW.seq (CW.cond_t rfl (lt_t hlt25) (CW.skip (tn ?_)))))))))
   refine CW.seq (CW.block (CW.seq (CW.region (sd rfl (yl_move rfl rfl (sd rfl (yl_assign rfl rfl (SeqR.done (tn (CW.seq ?_))))))))))
   refine CW.region (sd rfl (yl_move rfl rfl (sd rfl (yl_move rfl rfl (sd rfl (yl_move rfl rfl ?_))))))
   obtain ⟨eb26, eo26, ec26, eA26, eS26, ebl26, el26, eR26, eC26⟩ := RdS.atD hf22 d_Str (i := k8) (by first | omega | assumption)
   obtain rfl := eR26
   have eC26 : Cells w14 eb26 (eo26 + k8 * 1) [.string (bs ((p_s.getD k8 d_Str)))] := eC26
   refine sd rfl (yl_indexAddrN Tryd.un22 Tryd.ty9 rfl rfl rfl eA26 (by first | omega | assumption | (simp only [IntKind.wrap_i64] at *; omega)) (sd rfl (yl_load1 Tryd.ty9 rfl rfl (eC26 0 _ rfl) (sd rfl (yl_callv hen5 rfl rfl (opvs_cons rfl opvs_nil) (Cal.mono (hfn6 w14 (p_s.getD k8 d_Str) hf23 (getD_mem (by omega)) (okL.getD o2 ok_d_Str _)) ?_))))))
   rintro v28 w27 ⟨rfl, hE29⟩
   have hE29z := Ex.size hE29
   refine SeqR.done (tn (bcase (p_f (p_s.getD k8 d_Str)) (fun hb30 => ?_) (fun hb30 => ?_)))
   ·refine CW.cond_t rfl hb30 (CW.seq (CW.region (sd rfl (yl_move rfl rfl (sd rfl (yl_assign rfl rfl (SeqR.done (tn (CW.ret (br ?_))))))))))
    refine tr (tr ?_)
    have hB32 : B_g_slices_IndexFunc_string_0 p_s p_f k8 () = .ret (k8 : Int) := by simp only [B_g_slices_IndexFunc_string_0, hb30, cond_true, cond_false, loopE_done, loopE_ret]
    have hL31 : loopM (B_g_slices_IndexFunc_string_0 p_s p_f) (p_s.length - 0) 0 () = .ret (k8 : Int) := hI16.symm.trans (loopM.ret hlt25 hB32)
    refine br (tr (rr rfl (.cons rfl .nil) ?_))
    have hM33 : (g_slices_IndexFunc_string p_s p_f) = ((k8 : Int)) := by simp only [g_slices_IndexFunc_string, hb30, hL31, cond_true, cond_false, loopE_done, loopE_ret]
    rw [hM33]
    exact ⟨rfl, (Ex.trans hf23 hE29)⟩
   ·refine CW.cond_f rfl hb30 (CW.skip (bn (tn (CW.region (sd rfl (yl_inc rfl rfl rfl (by omega) (sd rfl (yl_move rfl rfl (SeqR.done (tn ?_))))))))))
    have hB35 : B_g_slices_IndexFunc_string_0 p_s p_f k8 () = .cont () := by simp only [B_g_slices_IndexFunc_string_0, hb30, cond_true, cond_false, loopE_done, loopE_ret]
    exact ⟨p_s.length - (k8 + 1), by omega, k8 + 1, rfl, hlt25, (by omega), rfl, rfl, rfl, rfl, (RdS.ex good_Str hf22 hE29), (Ex.trans hf23 hE29), (loopM.cont hlt25 hB35).symm.trans hI16⟩
  ·refine CW.seq (CW.region (sd rfl (yl_lss rfl rfl rfl (SeqR.done (tn (CW.seq (CW.cond_f rfl (lt_f hlt25) (CW.exit (tx ?_)))))))))
   refine tx ?_
   have hL38 : loopM (B_g_slices_IndexFunc_string_0 p_s p_f) (p_s.length - 0) 0 () = .done () := hI16.symm.trans (loopM.stop hlt25)
   refine bx (tn (CW.seq (CW.region (sd rfl (yl_assign rfl rfl (SeqR.done (tn (CW.ret (rr rfl (.cons rfl .nil) ?_)))))))))
   have hM39 : (g_slices_IndexFunc_string p_s p_f) = (-1) := by simp only [g_slices_IndexFunc_string, hL38, cond_true, cond_false, loopE_done, loopE_ret]
   rw [hM39]
   exact ⟨rfl, hf23⟩
set_option maxRecDepth 100000 in
set_option maxHeartbeats 2000000 in
theorem c_g_slices_ContainsFunc_string {A1 : Option Addr} {c1 : Nat} {g3 : Nat} {cp4 : List Value} {w : World} (p_s : List Str) (p_f : Str → Bool) (h1 : RdS w (Iv 0 w.heap.size) (RF e_Str) 1 A1 p_s.length c1 p_s) (hen5 : Go.X.Enters Tryd.prog g3) (hfn6 : ∀ (w1 : World) (y0 : Str), Ex w w1 → y0 ∈ p_s → okS y0 → Cal Tryd.prog g3 (([.string (bs (y0))] : List Value) ++ cp4).toArray w1 fun v w2 => v = .bool (p_f y0) ∧ Ex w1 w2) (o2 : (okL okS) p_s) : Cal Tryd.prog 69 #[.slice A1 p_s.length c1, .func (.func g3) #[] cp4.toArray] w fun v w' => v = .bool ((g_slices_ContainsFunc_string p_s p_f)) ∧ Ex w w' := by
 have hol7 := o2.1
 refine Cal.of (vs := [.slice A1 p_s.length c1, .func (.func g3) #[] cp4.toArray]) Tryd.func69 rfl Tryd.ntmps69 rfl (CW.seq (CW.region (sd rfl (yl_assign rfl rfl (SeqR.done (tn (CW.seq (CW.region (sd rfl (yl_move rfl rfl ?_))))))))))
 refine sd rfl (yl_move rfl rfl (sd rfl (yl_call Tryd.en87 rfl (opvs_cons rfl (opvs_cons rfl opvs_nil)) (Cal.mono (c_g_slices_IndexFunc_string p_s p_f (RdS.up h1 good_Str) hen5 (fun w1 y0 => fun hE => hfn6 w1 y0 (Ex.trans (Ex.refl w) hE)) o2) ?_))))
 rintro v9 w8 ⟨rfl, hE10⟩
 have hE10z := Ex.size hE10
 refine sd rfl (yl_geq rfl rfl rfl (sd rfl (yl_assign rfl rfl (SeqR.done (tn (CW.ret (rr rfl (.cons rfl .nil) ?_)))))))
 have hM11 : (g_slices_ContainsFunc_string p_s p_f) = (decide (0 ≤ (g_slices_IndexFunc_string p_s p_f))) := by simp only [g_slices_ContainsFunc_string, cond_true, cond_false, loopE_done, loopE_ret]
 rw [hM11]
 exact ⟨rfl, (Ex.trans (Ex.refl w) hE10)⟩
set_option maxRecDepth 100000 in
set_option maxHeartbeats 2000000 in
theorem c_i_Table_isRow_c1 {w : World} (p_s : Str) (o1 : okS p_s) : Cal Tryd.prog 70 #[.string (bs (p_s))] w fun v w' => v = .bool ((i_Table_isRow_c1 p_s)) ∧ Ex w w' := by
 have hol2 : p_s.length ≤ 1073741824 := o1
 refine Cal.of (vs := [.string (bs (p_s))]) Tryd.func70 rfl Tryd.ntmps70 rfl (CW.seq (CW.region (sd rfl (yl_assign rfl rfl (SeqR.done (tn (CW.seq (CW.region (sd rfl (yl_move rfl rfl ?_))))))))))
 refine sd rfl (yl_call Tryd.en71 rfl (opvs_cons rfl opvs_nil) (Cal.mono (c_i_isField p_s o1) ?_))
 rintro v4 w3 ⟨rfl, hE5⟩
 have hE5z := Ex.size hE5
 refine sd rfl (yl_not rfl rfl (sd rfl (yl_assign rfl rfl (SeqR.done (tn (CW.ret (rr rfl (.cons rfl .nil) ?_)))))))
 have hM6 : (i_Table_isRow_c1 p_s) = (!(i_isField p_s)) := by simp only [i_Table_isRow_c1, cond_true, cond_false, loopE_done, loopE_ret]
 rw [hM6]
 exact ⟨rfl, (Ex.trans (Ex.refl w) hE5)⟩
set_option maxRecDepth 100000 in
set_option maxHeartbeats 2000000 in
theorem c_i_Table_isRow {A1 : Option Addr} {c1 : Nat} {A2 : Option Addr} {c2 : Nat} {A4 : Option Addr} {c4 : Nat} {w : World} (p_t : DTable) (p_r : DRow) (h1 : RdS w (Iv 0 w.heap.size) (RF e_Str) 1 A1 p_t.Cols.length c1 p_t.Cols) (h2 : RdS w (Iv 0 w.heap.size) (RF e_Idx) 3 A2 p_t.Idxs.length c2 p_t.Idxs) (h4 : RdS w (Iv 0 w.heap.size) (RF e_Str) 1 A4 p_r.Vals.length c4 p_r.Vals) (o3 : ok_Table p_t) (o5 : ok_Row p_r) : Cal Tryd.prog 53 #[.agg #[.string (bs (p_t.Name)), .slice A1 p_t.Cols.length c1, .slice A2 p_t.Idxs.length c2], .agg #[.slice A4 p_r.Vals.length c4]] w fun v w' => v = .bool ((i_Table_isRow p_t p_r)) ∧ Ex w w' := by
 have hol6 : p_t.Name.length ≤ 1073741824 := o3.1
 have hol7 := o3.2.1.1
 have hol8 := o3.2.2.1
 have hol9 := o5.1
 refine Cal.of (vs := [.agg #[.string (bs (p_t.Name)), .slice A1 p_t.Cols.length c1, .slice A2 p_t.Idxs.length c2], .agg #[.slice A4 p_r.Vals.length c4]]) Tryd.func53 rfl Tryd.ntmps53 rfl (CW.seq (CW.region (sd rfl (yl_box (cs := [.string (bs (p_t.Name)), .slice A1 p_t.Cols.length c1, .slice A2 p_t.Idxs.length c2]) rfl rfl rfl ?_))))
 intro b10 w11 hs12 hz13 hB14 hE15
 refine sd rfl (yl_box (cs := [.slice A4 p_r.Vals.length c4]) rfl rfl rfl ?_)
 intro b16 w17 hs18 hz19 hB20 hE21
 refine sd rfl (yl_assign rfl rfl (SeqR.done (tn (CW.seq (CW.region (sd rfl (yl_fieldAddr Tryd.fd31_0 rfl rfl (sd rfl (yl_load1 Tryd.ty22 rfl rfl ((hB20.cell 0).trans rfl) (sd rfl (yl_len Tryd.un22 rfl rfl (sd rfl (yl_fieldAddr Tryd.fd36_1 rfl rfl ?_)))))))))))))
 refine sd rfl (yl_load1 Tryd.ty22 rfl rfl (((Box.ex hB14 hE21).cell 1).trans rfl) (sd rfl (yl_len Tryd.un22 rfl rfl (sd rfl (yl_eql rfl rfl rfl (sd rfl (yl_move rfl rfl (bcase (decide ((p_r.Vals.length : Int) = (p_t.Cols.length : Int))) (fun hb23 => ?_) (fun hb23 => ?_)))))))))
 ·have hb23p := dec_t hb23
  refine sy rfl rfl hb23 (yl_fieldAddr Tryd.fd31_0 rfl rfl (sy rfl rfl hb23 (yl_load1 Tryd.ty22 rfl rfl ((hB20.cell 0).trans rfl) (sy rfl rfl hb23 (yl_call Tryd.en69 rfl (opvs_cons rfl (opvs_cons rfl opvs_nil)) (Cal.mono (c_g_slices_ContainsFunc_string p_r.Vals (fun y0 => i_Table_isRow_c1 y0) (RdS.up (RdS.ex good_Str (RdS.ex good_Str h4 hE15) hE21) good_Str) Tryd.en70 (fun _ y0 => fun hE hm0 ov0 => c_i_Table_isRow_c1 y0 ov0) o5) ?_))))))
  rintro v27 w26 ⟨rfl, hE28⟩
  have hE28z := Ex.size hE28
  refine sy rfl rfl hb23 (yl_not rfl rfl (sd rfl (yl_pick_t rfl rfl hb23 rfl (sd rfl (yl_assign rfl rfl (SeqR.done (tn (CW.ret (rr rfl (.cons rfl .nil) ?_)))))))))
  have hM29 : (i_Table_isRow p_t p_r) = (!(g_slices_ContainsFunc_string p_r.Vals (fun y0 => i_Table_isRow_c1 y0))) := by simp only [i_Table_isRow, hb23, cond_true, cond_false, loopE_done, loopE_ret]
  rw [hM29]
  exact ⟨rfl, (Ex.trans (Ex.trans (Ex.trans (Ex.refl w) hE15) hE21) hE28)⟩
 ·have hb23p := dec_f hb23
  refine sz rfl rfl hb23 (sz rfl rfl hb23 (sz rfl rfl hb23 (sz rfl rfl hb23 (sd rfl (yl_pick_f rfl rfl hb23 rfl (sd rfl (yl_assign rfl rfl (SeqR.done (tn (CW.ret ?_))))))))))
  refine rr rfl (.cons rfl .nil) ?_
  have hM33 : (i_Table_isRow p_t p_r) = (false) := by simp only [i_Table_isRow, hb23, cond_true, cond_false, loopE_done, loopE_ret]
  rw [hM33]
  exact ⟨rfl, (Ex.trans (Ex.trans (Ex.refl w) hE15) hE21)⟩
set_option maxRecDepth 100000 in
set_option maxHeartbeats 2000000 in
theorem c_i_Table_isRowAct {A1 : Option Addr} {c1 : Nat} {A2 : Option Addr} {c2 : Nat} {A4 : Option Addr} {c4 : Nat} {A5 : Option Addr} {c5 : Nat} {w : World} (p_t : DTable) (p_a : DRowAct) (h1 : RdS w (Iv 0 w.heap.size) (RF e_Str) 1 A1 p_t.Cols.length c1 p_t.Cols) (h2 : RdS w (Iv 0 w.heap.size) (RF e_Idx) 3 A2 p_t.Idxs.length c2 p_t.Idxs) (h4 : RdS w (Iv 0 w.heap.size) (RF e_Str) 1 A4 p_a.Old.Vals.length c4 p_a.Old.Vals) (h5 : RdS w (Iv 0 w.heap.size) (RF e_Str) 1 A5 p_a.New.Vals.length c5 p_a.New.Vals) (o3 : ok_Table p_t) (o6 : ok_RowAct p_a) (pre0 : 0 < p_t.Cols.length) : Cal Tryd.prog 78 #[.agg #[.string (bs (p_t.Name)), .slice A1 p_t.Cols.length c1, .slice A2 p_t.Idxs.length c2], .agg #[.int .i64 (p_a.Kind), .slice A4 p_a.Old.Vals.length c4, .slice A5 p_a.New.Vals.length c5]] w fun v w' => v = .bool ((i_Table_isRowAct p_t p_a)) ∧ Ex w w' := by
 have hol7 : p_t.Name.length ≤ 1073741824 := o3.1
 have hol8 := o3.2.1.1
 have hol9 := o3.2.2.1
 have hol10 := o6.1.1
 have hol11 := o6.2.1
 refine Cal.of (vs := [.agg #[.string (bs (p_t.Name)), .slice A1 p_t.Cols.length c1, .slice A2 p_t.Idxs.length c2], .agg #[.int .i64 (p_a.Kind), .slice A4 p_a.Old.Vals.length c4, .slice A5 p_a.New.Vals.length c5]]) Tryd.func78 rfl Tryd.ntmps78 rfl (CW.seq (CW.region (sd rfl (yl_box (cs := [.string (bs (p_t.Name)), .slice A1 p_t.Cols.length c1, .slice A2 p_t.Idxs.length c2]) rfl rfl rfl ?_))))
 intro b12 w13 hs14 hz15 hB16 hE17
 refine sd rfl (yl_box (cs := [.int .i64 (p_a.Kind), .slice A4 p_a.Old.Vals.length c4, .slice A5 p_a.New.Vals.length c5]) rfl rfl rfl ?_)
 intro b18 w19 hs20 hz21 hB22 hE23
 refine sd rfl (yl_assign rfl rfl (SeqR.done (tn (CW.seq (CW.seq (CW.region (sd rfl (yl_fieldAddr Tryd.fd46_0 rfl rfl (sd rfl (yl_load1 Tryd.ty3 rfl rfl ((hB22.cell 0).trans rfl) (SeqR.done ?_)))))))))))
 refine tn (CW.block (CW.seq (CW.region (sd rfl (yl_eql rfl rfl rfl (sd rfl (yl_assign rfl rfl (SeqR.done (tn (bcase (decide (p_a.Kind = 1)) (fun hb24 => ?_) (fun hb24 => ?_)))))))))))
 ·have hb24p := dec_t hb24
  refine CW.cond_t rfl hb24 (CW.seq (CW.region (sd rfl (yl_fieldAddr Tryd.fd46_1 rfl rfl (sd rfl (yl_fieldAddr Tryd.fd31_0 rfl rfl (sd rfl (yl_load1 Tryd.ty22 rfl rfl ((hB22.cell 1).trans rfl) (sd rfl (yl_len Tryd.un22 rfl rfl (sd rfl (yl_eql rfl rfl rfl (sd rfl (yl_move rfl rfl ?_))))))))))))))
  refine bcase (decide ((p_a.Old.Vals.length : Int) = 0)) (fun hb25 => ?_) (fun hb25 => ?_)
  ·have hb25p := dec_t hb25
   refine sy rfl rfl hb25 (yl_loadN (cs := [.string (bs (p_t.Name)), .slice A1 p_t.Cols.length c1, .slice A2 p_t.Idxs.length c2]) Tryd.ty36 rfl rfl ((Box.ex hB16 hE23).cells (n := 3) rfl) rfl (sy rfl rfl hb25 (yl_fieldAddr Tryd.fd46_2 rfl rfl (sy rfl rfl hb25 (yl_loadN (cs := [.slice A5 p_a.New.Vals.length c5]) Tryd.ty31 rfl rfl (hB22.cells (n := 1) rfl) rfl (sy rfl rfl hb25 (yl_call Tryd.en53 rfl (opvs_cons rfl (opvs_cons rfl opvs_nil)) (Cal.mono (c_i_Table_isRow p_t p_a.New (RdS.up (RdS.ex good_Str (RdS.ex good_Str h1 hE17) hE23) good_Str) (RdS.up (RdS.ex good_Idx (RdS.ex good_Idx h2 hE17) hE23) good_Idx) (RdS.up (RdS.ex good_Str (RdS.ex good_Str h5 hE17) hE23) good_Str) o3 o6.2) ?_))))))))
   rintro v34 w33 ⟨rfl, hE35⟩
   have hE35z := Ex.size hE35
   refine sd rfl (yl_pick_t rfl rfl hb25 rfl (sd rfl (yl_assign rfl rfl (SeqR.done (tn (CW.ret (br (tr (rr rfl (.cons rfl .nil) ?_)))))))))
   have hM36 : (i_Table_isRowAct p_t p_a) = ((i_Table_isRow p_t p_a.New)) := by simp only [i_Table_isRowAct, hb24, hb25, cond_true, cond_false, loopE_done, loopE_ret]
   rw [hM36]
   exact ⟨rfl, (Ex.trans (Ex.trans (Ex.trans (Ex.refl w) hE17) hE23) hE35)⟩
  ·have hb25p := dec_f hb25
   refine sz rfl rfl hb25 (sz rfl rfl hb25 (sz rfl rfl hb25 (sz rfl rfl hb25 (sd rfl (yl_pick_f rfl rfl hb25 rfl (sd rfl (yl_assign rfl rfl (SeqR.done (tn (CW.ret ?_))))))))))
   refine br (tr (rr rfl (.cons rfl .nil) ?_))
   have hM40 : (i_Table_isRowAct p_t p_a) = (false) := by simp only [i_Table_isRowAct, hb24, hb25, cond_true, cond_false, loopE_done, loopE_ret]
   rw [hM40]
   exact ⟨rfl, (Ex.trans (Ex.trans (Ex.refl w) hE17) hE23)⟩
 ·have hb24p := dec_f hb24
  refine CW.cond_f rfl hb24 (CW.seq (CW.region (sd rfl (yl_eql rfl rfl rfl (sd rfl (yl_assign rfl rfl (SeqR.done (tn (bcase (decide (p_a.Kind = 2)) (fun hb43 => ?_) (fun hb43 => ?_))))))))))
  ·have hb43p := dec_t hb43
   refine CW.cond_t rfl hb43 (CW.seq (CW.region (sd rfl (yl_loadN (cs := [.string (bs (p_t.Name)), .slice A1 p_t.Cols.length c1, .slice A2 p_t.Idxs.length c2]) Tryd.ty36 rfl rfl ((Box.ex hB16 hE23).cells (n := 3) rfl) rfl (sd rfl (yl_fieldAddr Tryd.fd46_1 rfl rfl (sd rfl (yl_loadN (cs := [.slice A4 p_a.Old.Vals.length c4]) Tryd.ty31 rfl rfl (hB22.cells (n := 1) rfl) rfl (sd rfl (yl_call Tryd.en53 rfl (opvs_cons rfl (opvs_cons rfl opvs_nil)) (Cal.mono (c_i_Table_isRow p_t p_a.Old (RdS.up (RdS.ex good_Str (RdS.ex good_Str h1 hE17) hE23) good_Str) (RdS.up (RdS.ex good_Idx (RdS.ex good_Idx h2 hE17) hE23) good_Idx) (RdS.up (RdS.ex good_Str (RdS.ex good_Str h4 hE17) hE23) good_Str) o3 o6.1) ?_)))))))))))
   rintro v52 w51 ⟨rfl, hE53⟩
   have hE53z := Ex.size hE53
   refine sd rfl (yl_move rfl rfl (bcase (i_Table_isRow p_t p_a.Old) (fun hb54 => ?_) (fun hb54 => ?_)))
   ·obtain ⟨hb54p0, hb54p1⟩ := f_i_isRow hb54
    refine sy rfl rfl hb54 (yl_fieldAddr Tryd.fd46_2 rfl rfl (sy rfl rfl hb54 (yl_fieldAddr Tryd.fd31_0 rfl rfl (sy rfl rfl hb54 (yl_load1 Tryd.ty22 rfl rfl (((Box.ex hB22 hE53).cell 2).trans rfl) (sy rfl rfl hb54 (yl_len Tryd.un22 rfl rfl (sy rfl rfl hb54 (yl_eql rfl rfl rfl (sd rfl (yl_pick_t rfl rfl hb54 rfl (sd rfl (yl_assign rfl rfl (SeqR.done (tn ?_)))))))))))))))
    refine CW.ret (br (tr (rr rfl (.cons rfl .nil) ?_)))
    have hM56 : (i_Table_isRowAct p_t p_a) = (decide ((p_a.New.Vals.length : Int) = 0)) := by simp only [i_Table_isRowAct, hb24, hb43, hb54, cond_true, cond_false, loopE_done, loopE_ret]
    rw [hM56]
    exact ⟨rfl, (Ex.trans (Ex.trans (Ex.trans (Ex.refl w) hE17) hE23) hE53)⟩
   ·refine sz rfl rfl hb54 (sz rfl rfl hb54 (sz rfl rfl hb54 (sz rfl rfl hb54 (sz rfl rfl hb54 (sd rfl (yl_pick_f rfl rfl hb54 rfl (sd rfl (yl_assign rfl rfl (SeqR.done (tn ?_))))))))))
    refine CW.ret (br (tr (rr rfl (.cons rfl .nil) ?_)))
    have hM60 : (i_Table_isRowAct p_t p_a) = (false) := by simp only [i_Table_isRowAct, hb24, hb43, hb54, cond_true, cond_false, loopE_done, loopE_ret]
    rw [hM60]
    exact ⟨rfl, (Ex.trans (Ex.trans (Ex.trans (Ex.refl w) hE17) hE23) hE53)⟩
  ·have hb43p := dec_f hb43
   refine CW.cond_f rfl hb43 (CW.seq (CW.region (sd rfl (yl_eql rfl rfl rfl (sd rfl (yl_assign rfl rfl (SeqR.done (tn (bcase (decide (p_a.Kind = 3)) (fun hb64 => ?_) (fun hb64 => ?_))))))))))
   ·have hb64p := dec_t hb64
    refine CW.cond_t rfl hb64 (CW.seq (bcase (i_Table_isRow p_t p_a.Old) (fun hb73 => ?_) (fun hb73 => ?_)))
    ·obtain ⟨hb73p0, hb73p1⟩ := f_i_isRow hb73
     refine bcase (i_Table_isRow p_t p_a.New) (fun hb85 => ?_) (fun hb85 => ?_)
     ·obtain ⟨hb85p0, hb85p1⟩ := f_i_isRow hb85
      have q86 := Box.ex hB16 hE23
      have q88 := RdS.ex good_Str (RdS.ex good_Str h1 hE17) hE23
      have q90 := RdS.ex good_Idx (RdS.ex good_Idx h2 hE17) hE23
      have q92 := RdS.ex good_Str (RdS.ex good_Str h4 hE17) hE23
      have q95 := RdS.ex good_Str (RdS.ex good_Str h5 hE17) hE23
      obtain ⟨eb97, eo97, ec97, eA97, eS97, ebl97, el97, eR97, eC97⟩ := RdS.atD q92 d_Str (i := 0) (by first | omega | assumption)
      obtain rfl := eR97
      have eC97 : Cells w19 eb97 (eo97 + 0 * 1) [.string (bs ((p_a.Old.Vals.getD 0 d_Str)))] := eC97
      obtain ⟨eb98, eo98, ec98, eA98, eS98, ebl98, el98, eR98, eC98⟩ := RdS.atD q95 d_Str (i := 0) (by first | omega | assumption)
      obtain rfl := eR98
      have eC98 : Cells w19 eb98 (eo98 + 0 * 1) [.string (bs ((p_a.New.Vals.getD 0 d_Str)))] := eC98
      refine CW.drawsI 24 (vgetI [DetI (.agg #[.string (bs (p_t.Name)), .slice A1 p_t.Cols.length c1, .slice A2 p_t.Idxs.length c2]), DetI (.pointer (some ⟨b18, 0 + 1, none⟩)), DetI (.agg #[.slice A4 p_a.Old.Vals.length c4]), DetI (.bool ((i_Table_isRow p_t p_a.Old))), DetI (.bool ((i_Table_isRow p_t p_a.Old))), DetI (.agg #[.string (bs (p_t.Name)), .slice A1 p_t.Cols.length c1, .slice A2 p_t.Idxs.length c2]), DetI (.pointer (some ⟨b18, 0 + 2, none⟩)), DetI (.agg #[.slice A5 p_a.New.Vals.length c5]), DetI (.bool ((i_Table_isRow p_t p_a.New))), DetI (.bool ((i_Table_isRow p_t p_a.New))), DetI (.bool ((i_Table_isRow p_t p_a.New))), DetI (.pointer (some ⟨b18, 0 + 1, none⟩)), DetI (.pointer (some ⟨b18, 0 + 1 + 0, none⟩)), DetI (.slice A4 p_a.Old.Vals.length c4), DetI (.pointer (some ⟨eb97, eo97 + 0 * 1, none⟩)), DetI (.string (bs ((p_a.Old.Vals.getD 0 d_Str)))), DetI (.pointer (some ⟨b18, 0 + 2, none⟩)), DetI (.pointer (some ⟨b18, 0 + 2 + 0, none⟩)), DetI (.slice A5 p_a.New.Vals.length c5), DetI (.pointer (some ⟨eb98, eo98 + 0 * 1, none⟩)), DetI (.string (bs ((p_a.New.Vals.getD 0 d_Str)))), DetI (.bool ((p_a.Old.Vals.getD 0 d_Str) == (p_a.New.Vals.getD 0 d_Str))), DetI (.bool ((p_a.Old.Vals.getD 0 d_Str) == (p_a.New.Vals.getD 0 d_Str))), DetI (.bool ((p_a.Old.Vals.getD 0 d_Str) == (p_a.New.Vals.getD 0 d_Str)))]) Tryd.follows rfl rfl rfl rfl rfl rfl (vgetI_stable ⟨StableI.det _, StableI.det _, StableI.det _, StableI.det _, StableI.det _, StableI.det _, StableI.det _, StableI.det _, StableI.det _, StableI.det _, StableI.det _, StableI.det _, StableI.det _, StableI.det _, StableI.det _, StableI.det _, StableI.det _, StableI.det _, StableI.det _, StableI.det _, StableI.det _, StableI.det _, StableI.det _, StableI.det _, trivial⟩) ⟨?_, ?_, ?_, ?_, ?_, ?_, ?_, ?_, ?_, ?_, ?_, ?_, ?_, ?_, ?_, ?_, ?_, ?_, ?_, ?_, ?_, ?_, ?_, ?_, trivial⟩ ?_
      ·exact fun _ _ h => os rfl ((yl_loadN (cs := [.string (bs (p_t.Name)), .slice A1 p_t.Cols.length c1, .slice A2 p_t.Idxs.length c2]) Tryd.ty36 rfl (h.old 2 _ rfl rfl) ((Box.ex q86 h.ex).cells (n := 3) rfl) rfl kI))
      ·exact fun _ _ h => os rfl ((yl_fieldAddr Tryd.fd46_1 rfl (h.old 3 _ rfl rfl) kI))
      ·exact fun _ _ h => os rfl ((yl_loadN (cs := [.slice A4 p_a.Old.Vals.length c4]) Tryd.ty31 rfl (h.dt 1 36 rfl rfl rfl) ((Box.ex hB22 h.ex).cells (n := 1) rfl) rfl kI))
      ·intro L116 w117 hi118
       have hE119 := hi118.ex
       refine OpR.op' rfl (yl_call Tryd.en53 rfl (opvs_cons (hi118.dt 0 35 rfl rfl rfl) (opvs_cons (hi118.dt 2 37 rfl rfl rfl) opvs_nil)) (Cal.mono (c_i_Table_isRow p_t p_a.Old (RdS.up (RdS.ex good_Str q88 hE119) good_Str) (RdS.up (RdS.ex good_Idx q90 hE119) good_Idx) (RdS.up (RdS.ex good_Str q92 hE119) good_Str) o3 o6.1) ?_))
       rintro v126 w125 ⟨rfl, hE127⟩
       exact ⟨rfl, hE127⟩
      ·exact fun _ _ h => os rfl ((yl_move rfl (h.dt 3 38 rfl rfl rfl) kI))
      ·exact fun _ _ h => OpR.want rfl rfl (h.dt 4 39 rfl rfl rfl) hb73 (Yl.sameI (yl_loadN (cs := [.string (bs (p_t.Name)), .slice A1 p_t.Cols.length c1, .slice A2 p_t.Idxs.length c2]) Tryd.ty36 rfl (h.old 2 _ rfl rfl) ((Box.ex q86 h.ex).cells (n := 3) rfl) rfl kI))
      ·exact fun _ _ h => OpR.want rfl rfl (h.dt 4 39 rfl rfl rfl) hb73 (Yl.sameI (yl_fieldAddr Tryd.fd46_2 rfl (h.old 3 _ rfl rfl) kI))
      ·exact fun _ _ h => OpR.want rfl rfl (h.dt 4 39 rfl rfl rfl) hb73 (Yl.sameI (yl_loadN (cs := [.slice A5 p_a.New.Vals.length c5]) Tryd.ty31 rfl (h.dt 6 41 rfl rfl rfl) ((Box.ex hB22 h.ex).cells (n := 1) rfl) rfl kI))
      ·intro L153 w154 hi155
       have hE156 := hi155.ex
       refine OpR.want rfl rfl (hi155.dt 4 39 rfl rfl rfl) hb73 (yl_call Tryd.en53 rfl (opvs_cons (hi155.dt 5 40 rfl rfl rfl) (opvs_cons (hi155.dt 7 42 rfl rfl rfl) opvs_nil)) (Cal.mono (c_i_Table_isRow p_t p_a.New (RdS.up (RdS.ex good_Str q88 hE156) good_Str) (RdS.up (RdS.ex good_Idx q90 hE156) good_Idx) (RdS.up (RdS.ex good_Str q95 hE156) good_Str) o3 o6.2) ?_))
       rintro v164 w163 ⟨rfl, hE165⟩
       exact ⟨rfl, hE165⟩
      ·exact fun _ _ h => os rfl ((yl_pick_t rfl (h.dt 4 39 rfl rfl rfl) hb73 (h.dt 8 43 rfl rfl rfl) kI))
      ·exact fun _ _ h => os rfl ((yl_move rfl (h.dt 9 44 rfl rfl rfl) kI))
      ·exact fun _ _ h => OpR.want rfl rfl (h.dt 10 45 rfl rfl rfl) hb85 (Yl.sameI (yl_fieldAddr Tryd.fd46_1 rfl (h.old 3 _ rfl rfl) kI))
      ·exact fun _ _ h => OpR.want rfl rfl (h.dt 10 45 rfl rfl rfl) hb85 (Yl.sameI (yl_fieldAddr Tryd.fd31_0 rfl (h.dt 11 46 rfl rfl rfl) kI))
      ·exact fun _ _ h => OpR.want rfl rfl (h.dt 10 45 rfl rfl rfl) hb85 (Yl.sameI (yl_load1 Tryd.ty22 rfl (h.dt 12 47 rfl rfl rfl) (((Box.ex hB22 h.ex).cell 1).trans rfl) kI))
      ·intro L196 w197 hi198
       have hE199 := hi198.ex
       have hE199z := Ex.size hE199
       exact OpR.want rfl rfl (hi198.dt 10 45 rfl rfl rfl) hb85 (Yl.sameI (yl_indexAddrN Tryd.un22 Tryd.ty9 rfl (hi198.dt 13 48 rfl rfl rfl) rfl eA97 (by first | omega | assumption | (simp only [IntKind.wrap_i64] at *; omega)) kI))
      ·exact fun _ _ h => OpR.want rfl rfl (h.dt 10 45 rfl rfl rfl) hb85 (Yl.sameI (yl_load1 Tryd.ty9 rfl (h.dt 14 49 rfl rfl rfl) ((Cells.ex eC97 h.ex) 0 _ rfl) kI))
      ·exact fun _ _ h => OpR.want rfl rfl (h.dt 10 45 rfl rfl rfl) hb85 (Yl.sameI (yl_fieldAddr Tryd.fd46_2 rfl (h.old 3 _ rfl rfl) kI))
      ·exact fun _ _ h => OpR.want rfl rfl (h.dt 10 45 rfl rfl rfl) hb85 (Yl.sameI (yl_fieldAddr Tryd.fd31_0 rfl (h.dt 16 51 rfl rfl rfl) kI))
      ·exact fun _ _ h => OpR.want rfl rfl (h.dt 10 45 rfl rfl rfl) hb85 (Yl.sameI (yl_load1 Tryd.ty22 rfl (h.dt 17 52 rfl rfl rfl) (((Box.ex hB22 h.ex).cell 2).trans rfl) kI))
      ·intro L228 w229 hi230
       have hE231 := hi230.ex
       have hE231z := Ex.size hE231
       exact OpR.want rfl rfl (hi230.dt 10 45 rfl rfl rfl) hb85 (Yl.sameI (yl_indexAddrN Tryd.un22 Tryd.ty9 rfl (hi230.dt 18 53 rfl rfl rfl) rfl eA98 (by first | omega | assumption | (simp only [IntKind.wrap_i64] at *; omega)) kI))
      ·exact fun _ _ h => OpR.want rfl rfl (h.dt 10 45 rfl rfl rfl) hb85 (Yl.sameI (yl_load1 Tryd.ty9 rfl (h.dt 19 54 rfl rfl rfl) ((Cells.ex eC98 h.ex) 0 _ rfl) kI))
      ·exact fun _ _ h => OpR.want rfl rfl (h.dt 10 45 rfl rfl rfl) hb85 (Yl.sameI (yl_seql (a := (p_a.Old.Vals.getD 0 d_Str)) (b := (p_a.New.Vals.getD 0 d_Str)) rfl (h.dt 15 50 rfl rfl rfl) (h.dt 20 55 rfl rfl rfl) kI))
      ·exact fun _ _ h => os rfl ((yl_pick_t rfl (h.dt 10 45 rfl rfl rfl) hb85 (h.dt 21 56 rfl rfl rfl) kI))
      ·exact fun _ _ h => os rfl ((yl_assign rfl (h.dt 22 57 rfl rfl rfl) kI))
      ·intro fl262 fh263 L259 w260 hp261
       have hE264 := hp261.ex
       have hE264z := Ex.size hE264
       refine SeqR.done (tn (CW.sub (Sub.cons (d := 4) (hp261.nt 23 4 rfl rfl rfl) (Sub.nil _)) (CW.ret (br (tr (rr rfl (.cons rfl .nil) ?_))))))
       have hM266 : (i_Table_isRowAct p_t p_a) = ((p_a.Old.Vals.getD 0 d_Str) == (p_a.New.Vals.getD 0 d_Str)) := by simp only [i_Table_isRowAct, hb24, hb43, hb64, hb73, hb85, cond_true, cond_false, loopE_done, loopE_ret]
       rw [hM266]
       exact ⟨rfl, (Ex.trans (Ex.trans (Ex.trans (Ex.refl w) hE17) hE23) hE264)⟩
     ·have q270 := Box.ex hB16 hE23
      have q272 := RdS.ex good_Str (RdS.ex good_Str h1 hE17) hE23
      have q274 := RdS.ex good_Idx (RdS.ex good_Idx h2 hE17) hE23
      refine CW.drawsI 24 (vgetI [DetI (.agg #[.string (bs (p_t.Name)), .slice A1 p_t.Cols.length c1, .slice A2 p_t.Idxs.length c2]), DetI (.pointer (some ⟨b18, 0 + 1, none⟩)), DetI (.agg #[.slice A4 p_a.Old.Vals.length c4]), DetI (.bool ((i_Table_isRow p_t p_a.Old))), DetI (.bool ((i_Table_isRow p_t p_a.Old))), DetI (.agg #[.string (bs (p_t.Name)), .slice A1 p_t.Cols.length c1, .slice A2 p_t.Idxs.length c2]), DetI (.pointer (some ⟨b18, 0 + 2, none⟩)), DetI (.agg #[.slice A5 p_a.New.Vals.length c5]), DetI (.bool ((i_Table_isRow p_t p_a.New))), DetI (.bool ((i_Table_isRow p_t p_a.New))), DetI (.bool ((i_Table_isRow p_t p_a.New))), DetI (undef), DetI (undef), DetI (undef), DetI (undef), DetI (undef), DetI (undef), DetI (undef), DetI (undef), DetI (undef), DetI (undef), DetI (undef), DetI (.bool (false)), DetI (.bool (false))]) Tryd.follows rfl rfl rfl rfl rfl rfl (vgetI_stable ⟨StableI.det _, StableI.det _, StableI.det _, StableI.det _, StableI.det _, StableI.det _, StableI.det _, StableI.det _, StableI.det _, StableI.det _, StableI.det _, StableI.det _, StableI.det _, StableI.det _, StableI.det _, StableI.det _, StableI.det _, StableI.det _, StableI.det _, StableI.det _, StableI.det _, StableI.det _, StableI.det _, StableI.det _, trivial⟩) ⟨?_, ?_, ?_, ?_, ?_, ?_, ?_, ?_, ?_, ?_, ?_, ?_, ?_, ?_, ?_, ?_, ?_, ?_, ?_, ?_, ?_, ?_, ?_, ?_, trivial⟩ ?_
      ·exact fun _ _ h => os rfl ((yl_loadN (cs := [.string (bs (p_t.Name)), .slice A1 p_t.Cols.length c1, .slice A2 p_t.Idxs.length c2]) Tryd.ty36 rfl (h.old 2 _ rfl rfl) ((Box.ex q270 h.ex).cells (n := 3) rfl) rfl kI))
      ·exact fun _ _ h => os rfl ((yl_fieldAddr Tryd.fd46_1 rfl (h.old 3 _ rfl rfl) kI))
      ·exact fun _ _ h => os rfl ((yl_loadN (cs := [.slice A4 p_a.Old.Vals.length c4]) Tryd.ty31 rfl (h.dt 1 36 rfl rfl rfl) ((Box.ex hB22 h.ex).cells (n := 1) rfl) rfl kI))
      ·intro L298 w299 hi300
       have hE301 := hi300.ex
       refine OpR.op' rfl (yl_call Tryd.en53 rfl (opvs_cons (hi300.dt 0 35 rfl rfl rfl) (opvs_cons (hi300.dt 2 37 rfl rfl rfl) opvs_nil)) (Cal.mono (c_i_Table_isRow p_t p_a.Old (RdS.up (RdS.ex good_Str q272 hE301) good_Str) (RdS.up (RdS.ex good_Idx q274 hE301) good_Idx) (RdS.up (RdS.ex good_Str (RdS.ex good_Str (RdS.ex good_Str h4 hE17) hE23) hE301) good_Str) o3 o6.1) ?_))
       rintro v308 w307 ⟨rfl, hE309⟩
       exact ⟨rfl, hE309⟩
      ·exact fun _ _ h => os rfl ((yl_move rfl (h.dt 3 38 rfl rfl rfl) kI))
      ·exact fun _ _ h => OpR.want rfl rfl (h.dt 4 39 rfl rfl rfl) hb73 (Yl.sameI (yl_loadN (cs := [.string (bs (p_t.Name)), .slice A1 p_t.Cols.length c1, .slice A2 p_t.Idxs.length c2]) Tryd.ty36 rfl (h.old 2 _ rfl rfl) ((Box.ex q270 h.ex).cells (n := 3) rfl) rfl kI))
      ·exact fun _ _ h => OpR.want rfl rfl (h.dt 4 39 rfl rfl rfl) hb73 (Yl.sameI (yl_fieldAddr Tryd.fd46_2 rfl (h.old 3 _ rfl rfl) kI))
      ·exact fun _ _ h => OpR.want rfl rfl (h.dt 4 39 rfl rfl rfl) hb73 (Yl.sameI (yl_loadN (cs := [.slice A5 p_a.New.Vals.length c5]) Tryd.ty31 rfl (h.dt 6 41 rfl rfl rfl) ((Box.ex hB22 h.ex).cells (n := 1) rfl) rfl kI))
      ·intro L335 w336 hi337
       have hE338 := hi337.ex
       refine OpR.want rfl rfl (hi337.dt 4 39 rfl rfl rfl) hb73 (yl_call Tryd.en53 rfl (opvs_cons (hi337.dt 5 40 rfl rfl rfl) (opvs_cons (hi337.dt 7 42 rfl rfl rfl) opvs_nil)) (Cal.mono (c_i_Table_isRow p_t p_a.New (RdS.up (RdS.ex good_Str q272 hE338) good_Str) (RdS.up (RdS.ex good_Idx q274 hE338) good_Idx) (RdS.up (RdS.ex good_Str (RdS.ex good_Str (RdS.ex good_Str h5 hE17) hE23) hE338) good_Str) o3 o6.2) ?_))
       rintro v346 w345 ⟨rfl, hE347⟩
       exact ⟨rfl, hE347⟩
      ·exact fun _ _ h => os rfl ((yl_pick_t rfl (h.dt 4 39 rfl rfl rfl) hb73 (h.dt 8 43 rfl rfl rfl) kI))
      ·exact fun _ _ h => os rfl ((yl_move rfl (h.dt 9 44 rfl rfl rfl) kI))
      ·exact fun _ _ h => OpR.skip rfl rfl (h.dt 10 45 rfl rfl rfl) hb85 ⟨rfl, Ex.refl _⟩
      ·exact fun _ _ h => OpR.skip rfl rfl (h.dt 10 45 rfl rfl rfl) hb85 ⟨rfl, Ex.refl _⟩
      ·exact fun _ _ h => OpR.skip rfl rfl (h.dt 10 45 rfl rfl rfl) hb85 ⟨rfl, Ex.refl _⟩
      ·exact fun _ _ h => OpR.skip rfl rfl (h.dt 10 45 rfl rfl rfl) hb85 ⟨rfl, Ex.refl _⟩
      ·exact fun _ _ h => OpR.skip rfl rfl (h.dt 10 45 rfl rfl rfl) hb85 ⟨rfl, Ex.refl _⟩
      ·exact fun _ _ h => OpR.skip rfl rfl (h.dt 10 45 rfl rfl rfl) hb85 ⟨rfl, Ex.refl _⟩
      ·exact fun _ _ h => OpR.skip rfl rfl (h.dt 10 45 rfl rfl rfl) hb85 ⟨rfl, Ex.refl _⟩
      ·exact fun _ _ h => OpR.skip rfl rfl (h.dt 10 45 rfl rfl rfl) hb85 ⟨rfl, Ex.refl _⟩
      ·exact fun _ _ h => OpR.skip rfl rfl (h.dt 10 45 rfl rfl rfl) hb85 ⟨rfl, Ex.refl _⟩
      ·exact fun _ _ h => OpR.skip rfl rfl (h.dt 10 45 rfl rfl rfl) hb85 ⟨rfl, Ex.refl _⟩
      ·exact fun _ _ h => OpR.skip rfl rfl (h.dt 10 45 rfl rfl rfl) hb85 ⟨rfl, Ex.refl _⟩
      ·exact fun _ _ h => os rfl ((yl_pick_f rfl (h.dt 10 45 rfl rfl rfl) hb85 rfl kI))
      ·exact fun _ _ h => os rfl ((yl_assign rfl (h.dt 22 57 rfl rfl rfl) kI))
      ·intro fl428 fh429 L425 w426 hp427
       have hE430 := hp427.ex
       have hE430z := Ex.size hE430
       refine SeqR.done (tn (CW.sub (Sub.cons (d := 4) (hp427.nt 23 4 rfl rfl rfl) (Sub.nil _)) (CW.ret (br (tr (rr rfl (.cons rfl .nil) ?_))))))
       have hM432 : (i_Table_isRowAct p_t p_a) = (false) := by simp only [i_Table_isRowAct, hb24, hb43, hb64, hb73, hb85, cond_true, cond_false, loopE_done, loopE_ret]
       rw [hM432]
       exact ⟨rfl, (Ex.trans (Ex.trans (Ex.trans (Ex.refl w) hE17) hE23) hE430)⟩
    ·refine CW.drawsI 24 (vgetI [DetI (.agg #[.string (bs (p_t.Name)), .slice A1 p_t.Cols.length c1, .slice A2 p_t.Idxs.length c2]), DetI (.pointer (some ⟨b18, 0 + 1, none⟩)), DetI (.agg #[.slice A4 p_a.Old.Vals.length c4]), DetI (.bool ((i_Table_isRow p_t p_a.Old))), DetI (.bool ((i_Table_isRow p_t p_a.Old))), DetI (undef), DetI (undef), DetI (undef), DetI (undef), DetI (.bool (false)), DetI (.bool (false)), DetI (undef), DetI (undef), DetI (undef), DetI (undef), DetI (undef), DetI (undef), DetI (undef), DetI (undef), DetI (undef), DetI (undef), DetI (undef), DetI (.bool (false)), DetI (.bool (false))]) Tryd.follows rfl rfl rfl rfl rfl rfl (vgetI_stable ⟨StableI.det _, StableI.det _, StableI.det _, StableI.det _, StableI.det _, StableI.det _, StableI.det _, StableI.det _, StableI.det _, StableI.det _, StableI.det _, StableI.det _, StableI.det _, StableI.det _, StableI.det _, StableI.det _, StableI.det _, StableI.det _, StableI.det _, StableI.det _, StableI.det _, StableI.det _, StableI.det _, StableI.det _, trivial⟩) ⟨?_, ?_, ?_, ?_, ?_, ?_, ?_, ?_, ?_, ?_, ?_, ?_, ?_, ?_, ?_, ?_, ?_, ?_, ?_, ?_, ?_, ?_, ?_, ?_, trivial⟩ ?_
     ·exact fun _ _ h => os rfl ((yl_loadN (cs := [.string (bs (p_t.Name)), .slice A1 p_t.Cols.length c1, .slice A2 p_t.Idxs.length c2]) Tryd.ty36 rfl (h.old 2 _ rfl rfl) ((Box.ex (Box.ex hB16 hE23) h.ex).cells (n := 3) rfl) rfl kI))
     ·exact fun _ _ h => os rfl ((yl_fieldAddr Tryd.fd46_1 rfl (h.old 3 _ rfl rfl) kI))
     ·exact fun _ _ h => os rfl ((yl_loadN (cs := [.slice A4 p_a.Old.Vals.length c4]) Tryd.ty31 rfl (h.dt 1 36 rfl rfl rfl) ((Box.ex hB22 h.ex).cells (n := 1) rfl) rfl kI))
     ·intro L461 w462 hi463
      have hE464 := hi463.ex
      refine OpR.op' rfl (yl_call Tryd.en53 rfl (opvs_cons (hi463.dt 0 35 rfl rfl rfl) (opvs_cons (hi463.dt 2 37 rfl rfl rfl) opvs_nil)) (Cal.mono (c_i_Table_isRow p_t p_a.Old (RdS.up (RdS.ex good_Str (RdS.ex good_Str (RdS.ex good_Str h1 hE17) hE23) hE464) good_Str) (RdS.up (RdS.ex good_Idx (RdS.ex good_Idx (RdS.ex good_Idx h2 hE17) hE23) hE464) good_Idx) (RdS.up (RdS.ex good_Str (RdS.ex good_Str (RdS.ex good_Str h4 hE17) hE23) hE464) good_Str) o3 o6.1) ?_))
      rintro v471 w470 ⟨rfl, hE472⟩
      exact ⟨rfl, hE472⟩
     ·exact fun _ _ h => os rfl ((yl_move rfl (h.dt 3 38 rfl rfl rfl) kI))
     ·exact fun _ _ h => OpR.skip rfl rfl (h.dt 4 39 rfl rfl rfl) hb73 ⟨rfl, Ex.refl _⟩
     ·exact fun _ _ h => OpR.skip rfl rfl (h.dt 4 39 rfl rfl rfl) hb73 ⟨rfl, Ex.refl _⟩
     ·exact fun _ _ h => OpR.skip rfl rfl (h.dt 4 39 rfl rfl rfl) hb73 ⟨rfl, Ex.refl _⟩
     ·exact fun _ _ h => OpR.skip rfl rfl (h.dt 4 39 rfl rfl rfl) hb73 ⟨rfl, Ex.refl _⟩
     ·exact fun _ _ h => os rfl ((yl_pick_f rfl (h.dt 4 39 rfl rfl rfl) hb73 rfl kI))
     ·exact fun _ _ h => os rfl ((yl_move rfl (h.dt 9 44 rfl rfl rfl) kI))
     ·exact fun _ _ h => OpR.skip rfl rfl (h.dt 10 45 rfl rfl rfl) rfl ⟨rfl, Ex.refl _⟩
     ·exact fun _ _ h => OpR.skip rfl rfl (h.dt 10 45 rfl rfl rfl) rfl ⟨rfl, Ex.refl _⟩
     ·exact fun _ _ h => OpR.skip rfl rfl (h.dt 10 45 rfl rfl rfl) rfl ⟨rfl, Ex.refl _⟩
     ·exact fun _ _ h => OpR.skip rfl rfl (h.dt 10 45 rfl rfl rfl) rfl ⟨rfl, Ex.refl _⟩
     ·exact fun _ _ h => OpR.skip rfl rfl (h.dt 10 45 rfl rfl rfl) rfl ⟨rfl, Ex.refl _⟩
     ·exact fun _ _ h => OpR.skip rfl rfl (h.dt 10 45 rfl rfl rfl) rfl ⟨rfl, Ex.refl _⟩
     ·exact fun _ _ h => OpR.skip rfl rfl (h.dt 10 45 rfl rfl rfl) rfl ⟨rfl, Ex.refl _⟩
     ·exact fun _ _ h => OpR.skip rfl rfl (h.dt 10 45 rfl rfl rfl) rfl ⟨rfl, Ex.refl _⟩
     ·exact fun _ _ h => OpR.skip rfl rfl (h.dt 10 45 rfl rfl rfl) rfl ⟨rfl, Ex.refl _⟩
     ·exact fun _ _ h => OpR.skip rfl rfl (h.dt 10 45 rfl rfl rfl) rfl ⟨rfl, Ex.refl _⟩
     ·exact fun _ _ h => OpR.skip rfl rfl (h.dt 10 45 rfl rfl rfl) rfl ⟨rfl, Ex.refl _⟩
     ·exact fun _ _ h => os rfl ((yl_pick_f rfl (h.dt 10 45 rfl rfl rfl) rfl rfl kI))
     ·exact fun _ _ h => os rfl ((yl_assign rfl (h.dt 22 57 rfl rfl rfl) kI))
     ·intro fl578 fh579 L575 w576 hp577
      have hE580 := hp577.ex
      have hE580z := Ex.size hE580
      refine SeqR.done (tn (CW.sub (Sub.cons (d := 4) (hp577.nt 23 4 rfl rfl rfl) (Sub.nil _)) (CW.ret (br (tr (rr rfl (.cons rfl .nil) ?_))))))
      have hM582 : (i_Table_isRowAct p_t p_a) = (false) := by simp only [i_Table_isRowAct, hb24, hb43, hb64, hb73, cond_true, cond_false, loopE_done, loopE_ret]
      rw [hM582]
      exact ⟨rfl, (Ex.trans (Ex.trans (Ex.trans (Ex.refl w) hE17) hE23) hE580)⟩
   ·have hb64p := dec_f hb64
    refine CW.cond_f rfl hb64 (CW.skip (bn (tn (CW.seq (CW.region (sd rfl (yl_assign rfl rfl (SeqR.done (tn ?_)))))))))
    refine CW.ret (rr rfl (.cons rfl .nil) ?_)
    have hM586 : (i_Table_isRowAct p_t p_a) = (false) := by simp only [i_Table_isRowAct, hb24, hb43, hb64, cond_true, cond_false, loopE_done, loopE_ret]
    rw [hM586]
    exact ⟨rfl, (Ex.trans (Ex.trans (Ex.refl w) hE17) hE23)⟩
set_option maxRecDepth 100000 in
set_option maxHeartbeats 2000000 in
theorem c_i_isBare {A1 : Option Addr} {c1 : Nat} {A2 : Option Addr} {c2 : Nat} {w : World} (p_a : DRowAct) (h1 : RdS w (Iv 0 w.heap.size) (RF e_Str) 1 A1 p_a.Old.Vals.length c1 p_a.Old.Vals) (h2 : RdS w (Iv 0 w.heap.size) (RF e_Str) 1 A2 p_a.New.Vals.length c2 p_a.New.Vals) (o3 : ok_RowAct p_a) : Cal Tryd.prog 79 #[.agg #[.int .i64 (p_a.Kind), .slice A1 p_a.Old.Vals.length c1, .slice A2 p_a.New.Vals.length c2]] w fun v w' => v = .bool ((i_isBare p_a)) ∧ Ex w w' := by
 have hol4 := o3.1.1
 have hol5 := o3.2.1
 refine Cal.of (vs := [.agg #[.int .i64 (p_a.Kind), .slice A1 p_a.Old.Vals.length c1, .slice A2 p_a.New.Vals.length c2]]) Tryd.func79 rfl Tryd.ntmps79 rfl (CW.seq (CW.region (sd rfl (yl_box (cs := [.int .i64 (p_a.Kind), .slice A1 p_a.Old.Vals.length c1, .slice A2 p_a.New.Vals.length c2]) rfl rfl rfl ?_))))
 intro b6 w7 hs8 hz9 hB10 hE11
 refine sd rfl (yl_assign rfl rfl (SeqR.done (tn (CW.seq (CW.region (sd rfl (yl_fieldAddr Tryd.fd46_0 rfl rfl (sd rfl (yl_load1 Tryd.ty3 rfl rfl ((hB10.cell 0).trans rfl) (sd rfl (yl_eql rfl rfl rfl (sd rfl (yl_move rfl rfl ?_)))))))))))))
 refine bcase (decide (p_a.Kind = 0)) (fun hb12 => ?_) (fun hb12 => ?_)
 ·have hb12p := dec_t hb12
  refine sy rfl rfl hb12 (yl_fieldAddr Tryd.fd46_1 rfl rfl (sy rfl rfl hb12 (yl_fieldAddr Tryd.fd31_0 rfl rfl (sy rfl rfl hb12 (yl_load1 Tryd.ty22 rfl rfl ((hB10.cell 1).trans rfl) (sy rfl rfl hb12 (yl_len Tryd.un22 rfl rfl (sy rfl rfl hb12 (yl_eql rfl rfl rfl (sd rfl (yl_pick_t rfl rfl hb12 rfl (sd rfl (yl_move rfl rfl (bcase (decide ((p_a.Old.Vals.length : Int) = 0)) (fun hb13 => ?_) (fun hb13 => ?_)))))))))))))))
  ·have hb13p := dec_t hb13
   refine sy rfl rfl hb13 (yl_fieldAddr Tryd.fd46_2 rfl rfl (sy rfl rfl hb13 (yl_fieldAddr Tryd.fd31_0 rfl rfl (sy rfl rfl hb13 (yl_load1 Tryd.ty22 rfl rfl ((hB10.cell 2).trans rfl) (sy rfl rfl hb13 (yl_len Tryd.un22 rfl rfl (sy rfl rfl hb13 (yl_eql rfl rfl rfl (sd rfl (yl_pick_t rfl rfl hb13 rfl (sd rfl (yl_assign rfl rfl (SeqR.done (tn ?_)))))))))))))))
   refine CW.ret (rr rfl (.cons rfl .nil) ?_)
   have hM14 : (i_isBare p_a) = (decide ((p_a.New.Vals.length : Int) = 0)) := by simp only [i_isBare, hb12, hb13, cond_true, cond_false, loopE_done, loopE_ret]
   rw [hM14]
   exact ⟨rfl, (Ex.trans (Ex.refl w) hE11)⟩
  ·have hb13p := dec_f hb13
   refine sz rfl rfl hb13 (sz rfl rfl hb13 (sz rfl rfl hb13 (sz rfl rfl hb13 (sz rfl rfl hb13 (sd rfl (yl_pick_f rfl rfl hb13 rfl (sd rfl (yl_assign rfl rfl (SeqR.done (tn ?_))))))))))
   refine CW.ret (rr rfl (.cons rfl .nil) ?_)
   have hM16 : (i_isBare p_a) = (false) := by simp only [i_isBare, hb12, hb13, cond_true, cond_false, loopE_done, loopE_ret]
   rw [hM16]
   exact ⟨rfl, (Ex.trans (Ex.refl w) hE11)⟩
 ·have hb12p := dec_f hb12
  refine sz rfl rfl hb12 (sz rfl rfl hb12 (sz rfl rfl hb12 (sz rfl rfl hb12 (sz rfl rfl hb12 (sd rfl (yl_pick_f rfl rfl hb12 rfl (sd rfl (yl_move rfl rfl (sz rfl rfl rfl (sz rfl rfl rfl ?_))))))))))
  refine sz rfl rfl rfl (sz rfl rfl rfl (sz rfl rfl rfl (sd rfl (yl_pick_f rfl rfl rfl rfl (sd rfl (yl_assign rfl rfl (SeqR.done (tn (CW.ret (rr rfl (.cons rfl .nil) ?_))))))))))
  have hM18 : (i_isBare p_a) = (false) := by simp only [i_isBare, hb12, cond_true, cond_false, loopE_done, loopE_ret]
  rw [hM18]
  exact ⟨rfl, (Ex.trans (Ex.refl w) hE11)⟩
set_option maxRecDepth 100000 in
set_option maxHeartbeats 2000000 in
theorem c_g_slices_IndexFunc_Idx {A1 : Option Addr} {c1 : Nat} {g3 : Nat} {cp4 : List Value} {w : World} (p_s : List DIdx) (p_f : DIdx → Bool) (h1 : RdS w (Iv 0 w.heap.size) (RF e_Idx) 3 A1 p_s.length c1 p_s) (hen5 : Go.X.Enters Tryd.prog g3) (hfn6 : ∀ (w1 : World) (y0 : DIdx), Ex w w1 → y0 ∈ p_s → ok_Idx y0 → Cal Tryd.prog g3 (([.agg #[.string (bs (y0.Name)), .int .i64 (y0.Col), .int .i64 (y0.Stage)]] : List Value) ++ cp4).toArray w1 fun v w2 => v = .bool (p_f y0) ∧ Ex w1 w2) (o2 : (okL ok_Idx) p_s) : Cal Tryd.prog 92 #[.slice A1 p_s.length c1, .func (.func g3) #[] cp4.toArray] w fun v w' => v = .int .i64 ((g_slices_IndexFunc_Idx p_s p_f)) ∧ Ex w w' := by
 have hol7 := o2.1
 refine Cal.of (vs := [.slice A1 p_s.length c1, .func (.func g3) #[] cp4.toArray]) Tryd.func92 rfl Tryd.ntmps92 rfl (CW.seq (CW.region (sd rfl (yl_assign rfl rfl (SeqR.done (tn (CW.seq (CW.seq (CW.region ?_)))))))))
 refine sd rfl (yl_move rfl rfl (sd rfl (yl_len Tryd.un34 rfl rfl (sd rfl (yl_move rfl rfl (SeqR.done (tn (CW.block (CW.loop (fun m9 L10 w11 => ∃ (k8 : Nat), m9 = p_s.length - k8 ∧ k8 ≤ p_s.length ∧ w.heap.size ≤ w11.heap.size ∧ lkp L10 0 = some (.slice A1 p_s.length c1) ∧ lkp L10 1 = some (.func (.func g3) #[] cp4.toArray) ∧ lkp L10 7 = some (.int .i64 ((p_s.length : Int))) ∧ lkp L10 8 = some (.int .i64 ((k8 : Int))) ∧ RdS w11 (Iv 0 w.heap.size) (RF e_Idx) 3 A1 p_s.length c1 p_s ∧ Ex w w11 ∧ loopM (B_g_slices_IndexFunc_Idx_0 p_s p_f) (p_s.length - k8) k8 () = loopM (B_g_slices_IndexFunc_Idx_0 p_s p_f) (p_s.length - 0) 0 ()) (p_s.length - 0) ?_ ?_)))))))))
 ·exact ⟨0, rfl, (by omega), Nat.le_refl _, rfl, rfl, rfl, rfl, h1, (Ex.refl w), rfl⟩
 ·rintro m12 L13 w14 ⟨k8, rfl, hk15, hsz17, hl18, hl19, hl20, hl21, hf22, hf23, hI16⟩
  refine CW.sub (Sub.cons hl18 (Sub.cons hl19 (Sub.cons hl20 (Sub.cons hl21 (Sub.nil _))))) ?_
  have hf23z := Ex.size hf23
  have hbg24 := RdS.big hf22
  rcases Nat.lt_or_ge k8 p_s.length with hlt25 | hlt25
  ·refine CW.seq (CW.region (sd rfl (yl_lss rfl rfl rfl (SeqR.done (tn (CW.seq (CW.cond_t rfl (lt_t hlt25) (CW.skip (tn ?_)))))))))
   refine CW.seq (CW.block (CW.seq (CW.region (sd rfl (yl_move rfl rfl (sd rfl (yl_assign rfl rfl (SeqR.done (tn (CW.seq ?_))))))))))
   refine CW.region (sd rfl (yl_move rfl rfl (sd rfl (yl_move rfl rfl (sd rfl (yl_move rfl rfl ?_))))))
   obtain ⟨eb26, eo26, ec26, eA26, eS26, ebl26, el26, eR26, eC26⟩ := RdS.atD hf22 d_Idx (i := k8) (by first | omega | assumption)
   obtain rfl := eR26
   have eC26 : Cells w14 eb26 (eo26 + k8 * 3) [.string (bs ((p_s.getD k8 d_Idx).Name)), .int .i64 ((p_s.getD k8 d_Idx).Col), .int .i64 ((p_s.getD k8 d_Idx).Stage)] := eC26
   refine sd rfl (yl_indexAddrN Tryd.un34 Tryd.ty74 rfl rfl rfl eA26 (by first | omega | assumption | (simp only [IntKind.wrap_i64] at *; omega)) (sd rfl (yl_loadN (cs := [.string (bs ((p_s.getD k8 d_Idx).Name)), .int .i64 ((p_s.getD k8 d_Idx).Col), .int .i64 ((p_s.getD k8 d_Idx).Stage)]) Tryd.ty74 rfl rfl eC26 rfl (sd rfl (yl_callv hen5 rfl rfl (opvs_cons rfl opvs_nil) (Cal.mono (hfn6 w14 (p_s.getD k8 d_Idx) hf23 (getD_mem (by omega)) (okL.getD o2 ok_d_Idx _)) ?_))))))
   rintro v28 w27 ⟨rfl, hE29⟩
   have hE29z := Ex.size hE29
   refine SeqR.done (tn (bcase (p_f (p_s.getD k8 d_Idx)) (fun hb30 => ?_) (fun hb30 => ?_)))
   ·refine CW.cond_t rfl hb30 (CW.seq (CW.region (sd rfl (yl_move rfl rfl (sd rfl (yl_assign rfl rfl (SeqR.done (tn (CW.ret (br ?_))))))))))
    refine tr (tr ?_)
    have hB32 : B_g_slices_IndexFunc_Idx_0 p_s p_f k8 () = .ret (k8 : Int) := by simp only [B_g_slices_IndexFunc_Idx_0, hb30, cond_true, cond_false, loopE_done, loopE_ret]
    have hL31 : loopM (B_g_slices_IndexFunc_Idx_0 p_s p_f) (p_s.length - 0) 0 () = .ret (k8 : Int) := hI16.symm.trans (loopM.ret hlt25 hB32)
    refine br (tr (rr rfl (.cons rfl .nil) ?_))
    have hM33 : (g_slices_IndexFunc_Idx p_s p_f) = ((k8 : Int)) := by simp only [g_slices_IndexFunc_Idx, hb30, hL31, cond_true, cond_false, loopE_done, loopE_ret]
    rw [hM33]
    exact ⟨rfl, (Ex.trans hf23 hE29)⟩
   ·refine CW.cond_f rfl hb30 (CW.skip (bn (tn (CW.region (sd rfl (yl_inc rfl rfl rfl (by omega) (sd rfl (yl_move rfl rfl (SeqR.done (tn ?_))))))))))
    have hB35 : B_g_slices_IndexFunc_Idx_0 p_s p_f k8 () = .cont () := by simp only [B_g_slices_IndexFunc_Idx_0, hb30, cond_true, cond_false, loopE_done, loopE_ret]
    exact ⟨p_s.length - (k8 + 1), by omega, k8 + 1, rfl, hlt25, (by omega), rfl, rfl, rfl, rfl, (RdS.ex good_Idx hf22 hE29), (Ex.trans hf23 hE29), (loopM.cont hlt25 hB35).symm.trans hI16⟩
  ·refine CW.seq (CW.region (sd rfl (yl_lss rfl rfl rfl (SeqR.done (tn (CW.seq (CW.cond_f rfl (lt_f hlt25) (CW.exit (tx ?_)))))))))
   refine tx ?_
   have hL38 : loopM (B_g_slices_IndexFunc_Idx_0 p_s p_f) (p_s.length - 0) 0 () = .done () := hI16.symm.trans (loopM.stop hlt25)
   refine bx (tn (CW.seq (CW.region (sd rfl (yl_assign rfl rfl (SeqR.done (tn (CW.ret (rr rfl (.cons rfl .nil) ?_)))))))))
   have hM39 : (g_slices_IndexFunc_Idx p_s p_f) = (-1) := by simp only [g_slices_IndexFunc_Idx, hL38, cond_true, cond_false, loopE_done, loopE_ret]
   rw [hM39]
   exact ⟨rfl, hf23⟩
set_option maxRecDepth 100000 in
set_option maxHeartbeats 2000000 in
theorem c_i_Table_findIdx_c1 {b2 : Nat} {w : World} (p_x : DIdx) (p_cap0 : Str) (h3 : Box w b2 9 [.string (bs (p_cap0))]) (o1 : ok_Idx p_x) (o4 : okS p_cap0) : Cal Tryd.prog 93 #[.agg #[.string (bs (p_x.Name)), .int .i64 (p_x.Col), .int .i64 (p_x.Stage)], .pointer (some ⟨b2, 0, none⟩)] w fun v w' => v = .bool ((i_Table_findIdx_c1 p_x p_cap0)) ∧ Ex w w' := by
 have hol5 : p_x.Name.length ≤ 1073741824 := o1
 have hol6 : p_cap0.length ≤ 1073741824 := o4
 refine Cal.of (vs := [.agg #[.string (bs (p_x.Name)), .int .i64 (p_x.Col), .int .i64 (p_x.Stage)], .pointer (some ⟨b2, 0, none⟩)]) Tryd.func93 rfl Tryd.ntmps93 rfl (CW.seq (CW.region (sd rfl (yl_box (cs := [.string (bs (p_x.Name)), .int .i64 (p_x.Col), .int .i64 (p_x.Stage)]) rfl rfl rfl ?_))))
 intro b7 w8 hs9 hz10 hB11 hE12
 refine sd rfl (yl_assign rfl rfl (SeqR.done (tn (CW.seq (CW.region (sd rfl (yl_fieldAddr Tryd.fd74_0 rfl rfl (sd rfl (yl_load1 Tryd.ty9 rfl rfl ((hB11.cell 0).trans rfl) (sd rfl (yl_load1 Tryd.ty9 rfl rfl (((Box.ex h3 hE12).cell 0).trans rfl) (sd rfl (yl_seql (a := p_x.Name) (b := p_cap0) rfl rfl rfl ?_)))))))))))))
 refine sd rfl (yl_assign rfl rfl (SeqR.done (tn (CW.ret (rr rfl (.cons rfl .nil) ?_)))))
 have hM14 : (i_Table_findIdx_c1 p_x p_cap0) = (p_x.Name == p_cap0) := by simp only [i_Table_findIdx_c1, cond_true, cond_false, loopE_done, loopE_ret]
 rw [hM14]
 exact ⟨rfl, (Ex.trans (Ex.refl w) hE12)⟩
set_option maxRecDepth 100000 in
set_option maxHeartbeats 2000000 in
theorem c_i_Table_findIdx {A1 : Option Addr} {c1 : Nat} {A2 : Option Addr} {c2 : Nat} {w : World} (p_t : DTable) (p_name : Str) (h1 : RdS w (Iv 0 w.heap.size) (RF e_Str) 1 A1 p_t.Cols.length c1 p_t.Cols) (h2 : RdS w (Iv 0 w.heap.size) (RF e_Idx) 3 A2 p_t.Idxs.length c2 p_t.Idxs) (o3 : ok_Table p_t) (o4 : okS p_name) : Cal Tryd.prog 80 #[.agg #[.string (bs (p_t.Name)), .slice A1 p_t.Cols.length c1, .slice A2 p_t.Idxs.length c2], .string (bs (p_name))] w fun v w' => v = .int .i64 ((i_Table_findIdx p_t p_name)) ∧ Ex w w' := by
 have hol5 : p_t.Name.length ≤ 1073741824 := o3.1
 have hol6 := o3.2.1.1
 have hol7 := o3.2.2.1
 have hol8 : p_name.length ≤ 1073741824 := o4
 refine Cal.of (vs := [.agg #[.string (bs (p_t.Name)), .slice A1 p_t.Cols.length c1, .slice A2 p_t.Idxs.length c2], .string (bs (p_name))]) Tryd.func80 rfl Tryd.ntmps80 rfl (CW.seq (CW.region (sd rfl (yl_box (cs := [.string (bs (p_t.Name)), .slice A1 p_t.Cols.length c1, .slice A2 p_t.Idxs.length c2]) rfl rfl rfl ?_))))
 intro b9 w10 hs11 hz12 hB13 hE14
 refine sd rfl (yl_box (cs := [.string (bs (p_name))]) rfl rfl rfl ?_)
 intro b15 w16 hs17 hz18 hB19 hE20
 refine sd rfl (yl_assign rfl rfl (SeqR.done (tn (CW.seq (CW.region (sd rfl (yl_fieldAddr Tryd.fd36_2 rfl rfl (sd rfl (yl_load1 Tryd.ty34 rfl rfl (((Box.ex hB13 hE20).cell 2).trans rfl) (sd rfl (yl_makeFunc rfl (opvs_cons rfl opvs_nil) (sd rfl (yl_call Tryd.en92 rfl (opvs_cons rfl (opvs_cons rfl opvs_nil)) (Cal.mono (c_g_slices_IndexFunc_Idx p_t.Idxs (fun y0 => i_Table_findIdx_c1 y0 p_name) (RdS.up (RdS.ex good_Idx (RdS.ex good_Idx h2 hE14) hE20) good_Idx) Tryd.en93 (fun _ y0 => fun hE hm0 ov0 => c_i_Table_findIdx_c1 y0 p_name (Box.ex hB19 hE) ov0 o4) o3.2.2) ?_))))))))))))))
 rintro v25 w24 ⟨rfl, hE26⟩
 have hE26z := Ex.size hE26
 refine sd rfl (yl_assign rfl rfl (SeqR.done (tn (CW.ret (rr rfl (.cons rfl .nil) ?_)))))
 have hM27 : (i_Table_findIdx p_t p_name) = ((g_slices_IndexFunc_Idx p_t.Idxs (fun y0 => i_Table_findIdx_c1 y0 p_name))) := by simp only [i_Table_findIdx, cond_true, cond_false, loopE_done, loopE_ret]
 rw [hM27]
 exact ⟨rfl, (Ex.trans (Ex.trans (Ex.trans (Ex.refl w) hE14) hE20) hE26)⟩
set_option maxRecDepth 100000 in
set_option maxHeartbeats 2000000 in
theorem c_i_Table_isStmt {A1 : Option Addr} {c1 : Nat} {A2 : Option Addr} {c2 : Nat} {A4 : Option Addr} {c4 : Nat} {A5 : Option Addr} {c5 : Nat} {w : World} (p_0 : DTable) (p_1 : DStmt) (h1 : RdS w (Iv 0 w.heap.size) (RF e_Str) 1 A1 p_0.Cols.length c1 p_0.Cols) (h2 : RdS w (Iv 0 w.heap.size) (RF e_Idx) 3 A2 p_0.Idxs.length c2 p_0.Idxs) (h4 : RdS w (Iv 0 w.heap.size) (RF e_Str) 1 A4 p_1.Act.Old.Vals.length c4 p_1.Act.Old.Vals) (h5 : RdS w (Iv 0 w.heap.size) (RF e_Str) 1 A5 p_1.Act.New.Vals.length c5 p_1.Act.New.Vals) (o3 : ok_Table p_0) (o6 : ok_Stmt p_1) (pre0 : 0 < p_0.Cols.length) : Cal Tryd.prog 61 #[.agg #[.string (bs (p_0.Name)), .slice A1 p_0.Cols.length c1, .slice A2 p_0.Idxs.length c2], .agg #[.int .i64 (p_1.Kind), .int .i64 (p_1.Act.Kind), .slice A4 p_1.Act.Old.Vals.length c4, .slice A5 p_1.Act.New.Vals.length c5, .string (bs (p_1.Idx)), .string (bs (p_1.Low)), .string (bs (p_1.High))]] w fun v w' => v = .bool ((i_Table_isStmt p_0 p_1)) ∧ Ex w w' := by
 have hol7 : p_0.Name.length ≤ 1073741824 := o3.1
 have hol8 := o3.2.1.1
 have hol9 := o3.2.2.1
 have hol10 := o6.1.1.1
 have hol11 := o6.1.2.1
 have hol12 : p_1.Idx.length ≤ 1073741824 := o6.2.1
 have hol13 : p_1.Low.length ≤ 1073741824 := o6.2.2.1
 have hol14 : p_1.High.length ≤ 1073741824 := o6.2.2.2
 refine Cal.of (vs := [.agg #[.string (bs (p_0.Name)), .slice A1 p_0.Cols.length c1, .slice A2 p_0.Idxs.length c2], .agg #[.int .i64 (p_1.Kind), .int .i64 (p_1.Act.Kind), .slice A4 p_1.Act.Old.Vals.length c4, .slice A5 p_1.Act.New.Vals.length c5, .string (bs (p_1.Idx)), .string (bs (p_1.Low)), .string (bs (p_1.High))]]) Tryd.func61 rfl Tryd.ntmps61 rfl (CW.seq (CW.region (sd rfl (yl_box (cs := [.string (bs (p_0.Name)), .slice A1 p_0.Cols.length c1, .slice A2 p_0.Idxs.length c2]) rfl rfl rfl ?_))))
 intro b15 w16 hs17 hz18 hB19 hE20
 refine sd rfl (yl_box (cs := [.int .i64 (p_1.Kind), .int .i64 (p_1.Act.Kind), .slice A4 p_1.Act.Old.Vals.length c4, .slice A5 p_1.Act.New.Vals.length c5, .string (bs (p_1.Idx)), .string (bs (p_1.Low)), .string (bs (p_1.High))]) rfl rfl rfl ?_)
 intro b21 w22 hs23 hz24 hB25 hE26
 refine sd rfl (yl_assign rfl rfl (SeqR.done (tn (CW.seq (CW.seq (CW.region (sd rfl (yl_fieldAddr Tryd.fd48_0 rfl rfl (sd rfl (yl_load1 Tryd.ty3 rfl rfl ((hB25.cell 0).trans rfl) (SeqR.done ?_)))))))))))
 refine tn (CW.block (CW.seq (CW.region (sd rfl (yl_eql rfl rfl rfl (sd rfl (yl_assign rfl rfl (SeqR.done (tn (bcase (decide (p_1.Kind = 1)) (fun hb27 => ?_) (fun hb27 => ?_)))))))))))
 ·have hb27p := dec_t hb27
  refine CW.cond_t rfl hb27 (CW.seq (CW.region (sd rfl (yl_loadN (cs := [.string (bs (p_0.Name)), .slice A1 p_0.Cols.length c1, .slice A2 p_0.Idxs.length c2]) Tryd.ty36 rfl rfl ((Box.ex hB19 hE26).cells (n := 3) rfl) rfl (sd rfl (yl_fieldAddr Tryd.fd48_1 rfl rfl (sd rfl (yl_loadN (cs := [.int .i64 (p_1.Act.Kind), .slice A4 p_1.Act.Old.Vals.length c4, .slice A5 p_1.Act.New.Vals.length c5]) Tryd.ty46 rfl rfl (hB25.cells (n := 3) rfl) rfl (sd rfl (yl_call Tryd.en78 rfl (opvs_cons rfl (opvs_cons rfl opvs_nil)) (Cal.mono (c_i_Table_isRowAct p_0 p_1.Act (RdS.up (RdS.ex good_Str (RdS.ex good_Str h1 hE20) hE26) good_Str) (RdS.up (RdS.ex good_Idx (RdS.ex good_Idx h2 hE20) hE26) good_Idx) (RdS.up (RdS.ex good_Str (RdS.ex good_Str h4 hE20) hE26) good_Str) (RdS.up (RdS.ex good_Str (RdS.ex good_Str h5 hE20) hE26) good_Str) o3 o6.1 (by first | omega | assumption | (simp only [IntKind.wrap_i64] at *; omega))) ?_)))))))))))
  rintro v38 w37 ⟨rfl, hE39⟩
  have hE39z := Ex.size hE39
  refine sd rfl (yl_move rfl rfl (bcase (i_Table_isRowAct p_0 p_1.Act) (fun hb40 => ?_) (fun hb40 => ?_)))
  ·refine sy rfl rfl hb40 (yl_fieldAddr Tryd.fd48_2 rfl rfl ?_)
   have q41 := Box.ex hB25 hE39
   refine sy rfl rfl hb40 (yl_load1 Tryd.ty9 rfl rfl ((q41.cell 4).trans rfl) (sy rfl rfl hb40 (yl_seql (a := p_1.Idx) (b := ([] : Str)) rfl rfl rfl (sd rfl (yl_pick_t rfl rfl hb40 rfl (sd rfl (yl_move rfl rfl (bcase (p_1.Idx == ([] : Str)) (fun hb42 => ?_) (fun hb42 => ?_)))))))))
   ·refine sy rfl rfl hb42 (yl_fieldAddr Tryd.fd48_3 rfl rfl (sy rfl rfl hb42 (yl_load1 Tryd.ty9 rfl rfl ((q41.cell 5).trans rfl) (sy rfl rfl hb42 (yl_seql (a := p_1.Low) (b := ([] : Str)) rfl rfl rfl (sd rfl (yl_pick_t rfl rfl hb42 rfl (sd rfl (yl_move rfl rfl (bcase (p_1.Low == ([] : Str)) (fun hb43 => ?_) (fun hb43 => ?_)))))))))))
    ·refine sy rfl rfl hb43 (yl_fieldAddr Tryd.fd48_4 rfl rfl (sy rfl rfl hb43 (yl_load1 Tryd.ty9 rfl rfl ((q41.cell 6).trans rfl) (sy rfl rfl hb43 (yl_seql (a := p_1.High) (b := ([] : Str)) rfl rfl rfl (sd rfl (yl_pick_t rfl rfl hb43 rfl (sd rfl (yl_assign rfl rfl (SeqR.done (tn (CW.ret (br ?_)))))))))))))
     refine tr (rr rfl (.cons rfl .nil) ?_)
     have hM44 : (i_Table_isStmt p_0 p_1) = (p_1.High == ([] : Str)) := by simp only [i_Table_isStmt, hb27, hb40, hb42, hb43, cond_true, cond_false, loopE_done, loopE_ret]
     rw [hM44]
     exact ⟨rfl, (Ex.trans (Ex.trans (Ex.trans (Ex.refl w) hE20) hE26) hE39)⟩
    ·refine sz rfl rfl hb43 (sz rfl rfl hb43 (sz rfl rfl hb43 (sd rfl (yl_pick_f rfl rfl hb43 rfl (sd rfl (yl_assign rfl rfl (SeqR.done (tn (CW.ret (br ?_))))))))))
     refine tr (rr rfl (.cons rfl .nil) ?_)
     have hM48 : (i_Table_isStmt p_0 p_1) = (false) := by simp only [i_Table_isStmt, hb27, hb40, hb42, hb43, cond_true, cond_false, loopE_done, loopE_ret]
     rw [hM48]
     exact ⟨rfl, (Ex.trans (Ex.trans (Ex.trans (Ex.refl w) hE20) hE26) hE39)⟩
   ·refine sz rfl rfl hb42 (sz rfl rfl hb42 (sz rfl rfl hb42 (sd rfl (yl_pick_f rfl rfl hb42 rfl (sd rfl (yl_move rfl rfl (sz rfl rfl rfl (sz rfl rfl rfl (sz rfl rfl rfl (sd rfl (yl_pick_f rfl rfl rfl rfl ?_)))))))))))
    refine sd rfl (yl_assign rfl rfl (SeqR.done (tn (CW.ret (br (tr (rr rfl (.cons rfl .nil) ?_)))))))
    have hM52 : (i_Table_isStmt p_0 p_1) = (false) := by simp only [i_Table_isStmt, hb27, hb40, hb42, cond_true, cond_false, loopE_done, loopE_ret]
    rw [hM52]
    exact ⟨rfl, (Ex.trans (Ex.trans (Ex.trans (Ex.refl w) hE20) hE26) hE39)⟩
  ·refine sz rfl rfl hb40 (sz rfl rfl hb40 (sz rfl rfl hb40 (sd rfl (yl_pick_f rfl rfl hb40 rfl (sd rfl (yl_move rfl rfl (sz rfl rfl rfl (sz rfl rfl rfl (sz rfl rfl rfl (sd rfl (yl_pick_f rfl rfl rfl rfl ?_)))))))))))
   refine sd rfl (yl_move rfl rfl (sz rfl rfl rfl (sz rfl rfl rfl (sz rfl rfl rfl (sd rfl (yl_pick_f rfl rfl rfl rfl (sd rfl (yl_assign rfl rfl (SeqR.done (tn (CW.ret ?_)))))))))))
   refine br (tr (rr rfl (.cons rfl .nil) ?_))
   have hM56 : (i_Table_isStmt p_0 p_1) = (false) := by simp only [i_Table_isStmt, hb27, hb40, cond_true, cond_false, loopE_done, loopE_ret]
   rw [hM56]
   exact ⟨rfl, (Ex.trans (Ex.trans (Ex.trans (Ex.refl w) hE20) hE26) hE39)⟩
 ·have hb27p := dec_f hb27
  refine CW.cond_f rfl hb27 (CW.seq (CW.region (sd rfl (yl_eql rfl rfl rfl (sd rfl (yl_assign rfl rfl (SeqR.done (tn (bcase (decide (p_1.Kind = 2)) (fun hb60 => ?_) (fun hb60 => ?_))))))))))
  ·have hb60p := dec_t hb60
   refine CW.cond_t rfl hb60 (CW.seq (CW.region (sd rfl (yl_fieldAddr Tryd.fd48_1 rfl rfl (sd rfl (yl_loadN (cs := [.int .i64 (p_1.Act.Kind), .slice A4 p_1.Act.Old.Vals.length c4, .slice A5 p_1.Act.New.Vals.length c5]) Tryd.ty46 rfl rfl (hB25.cells (n := 3) rfl) rfl (sd rfl (yl_call Tryd.en79 rfl (opvs_cons rfl opvs_nil) (Cal.mono (c_i_isBare p_1.Act (RdS.up (RdS.ex good_Str (RdS.ex good_Str h4 hE20) hE26) good_Str) (RdS.up (RdS.ex good_Str (RdS.ex good_Str h5 hE20) hE26) good_Str) o6.1) ?_)))))))))
   rintro v66 w65 ⟨rfl, hE67⟩
   have hE67z := Ex.size hE67
   refine sd rfl (yl_move rfl rfl (bcase (i_isBare p_1.Act) (fun hb68 => ?_) (fun hb68 => ?_)))
   ·refine sy rfl rfl hb68 (yl_fieldAddr Tryd.fd48_2 rfl rfl ?_)
    have q69 := Box.ex hB25 hE67
    refine sy rfl rfl hb68 (yl_load1 Tryd.ty9 rfl rfl ((q69.cell 4).trans rfl) (sy rfl rfl hb68 (yl_seql (a := p_1.Idx) (b := ([] : Str)) rfl rfl rfl (sd rfl (yl_pick_t rfl rfl hb68 rfl (sd rfl (yl_move rfl rfl (bcase (p_1.Idx == ([] : Str)) (fun hb70 => ?_) (fun hb70 => ?_)))))))))
    ·refine sy rfl rfl hb70 (yl_fieldAddr Tryd.fd48_3 rfl rfl (sy rfl rfl hb70 (yl_load1 Tryd.ty9 rfl rfl ((q69.cell 5).trans rfl) (sy rfl rfl hb70 (yl_call Tryd.en71 rfl (opvs_cons rfl opvs_nil) (Cal.mono (c_i_isField p_1.Low o6.2.2.1) ?_))))))
     rintro v72 w71 ⟨rfl, hE73⟩
     have hE73z := Ex.size hE73
     refine sd rfl (yl_pick_t rfl rfl hb70 rfl (sd rfl (yl_move rfl rfl (bcase (i_isField p_1.Low) (fun hb74 => ?_) (fun hb74 => ?_)))))
     ·refine sy rfl rfl hb74 (yl_fieldAddr Tryd.fd48_4 rfl rfl (sy rfl rfl hb74 (yl_load1 Tryd.ty9 rfl rfl (((Box.ex q69 hE73).cell 6).trans rfl) (sy rfl rfl hb74 (yl_seql (a := p_1.High) (b := ([] : Str)) rfl rfl rfl (sd rfl (yl_pick_t rfl rfl hb74 rfl (sd rfl (yl_assign rfl rfl (SeqR.done (tn (CW.ret (br ?_)))))))))))))
      refine tr (rr rfl (.cons rfl .nil) ?_)
      have hM76 : (i_Table_isStmt p_0 p_1) = (p_1.High == ([] : Str)) := by simp only [i_Table_isStmt, hb27, hb60, hb68, hb70, hb74, cond_true, cond_false, loopE_done, loopE_ret]
      rw [hM76]
      exact ⟨rfl, (Ex.trans (Ex.trans (Ex.trans (Ex.trans (Ex.refl w) hE20) hE26) hE67) hE73)⟩
     ·refine sz rfl rfl hb74 (sz rfl rfl hb74 (sz rfl rfl hb74 (sd rfl (yl_pick_f rfl rfl hb74 rfl (sd rfl (yl_assign rfl rfl (SeqR.done (tn (CW.ret (br ?_))))))))))
      refine tr (rr rfl (.cons rfl .nil) ?_)
      have hM81 : (i_Table_isStmt p_0 p_1) = (false) := by simp only [i_Table_isStmt, hb27, hb60, hb68, hb70, hb74, cond_true, cond_false, loopE_done, loopE_ret]
      rw [hM81]
      exact ⟨rfl, (Ex.trans (Ex.trans (Ex.trans (Ex.trans (Ex.refl w) hE20) hE26) hE67) hE73)⟩
    ·refine sz rfl rfl hb70 (sz rfl rfl hb70 (sz rfl rfl hb70 (sd rfl (yl_pick_f rfl rfl hb70 rfl (sd rfl (yl_move rfl rfl (sz rfl rfl rfl (sz rfl rfl rfl (sz rfl rfl rfl (sd rfl (yl_pick_f rfl rfl rfl rfl ?_)))))))))))
     refine sd rfl (yl_assign rfl rfl (SeqR.done (tn (CW.ret (br (tr (rr rfl (.cons rfl .nil) ?_)))))))
     have hM86 : (i_Table_isStmt p_0 p_1) = (false) := by simp only [i_Table_isStmt, hb27, hb60, hb68, hb70, cond_true, cond_false, loopE_done, loopE_ret]
     rw [hM86]
     exact ⟨rfl, (Ex.trans (Ex.trans (Ex.trans (Ex.refl w) hE20) hE26) hE67)⟩
   ·refine sz rfl rfl hb68 (sz rfl rfl hb68 (sz rfl rfl hb68 (sd rfl (yl_pick_f rfl rfl hb68 rfl (sd rfl (yl_move rfl rfl (sz rfl rfl rfl (sz rfl rfl rfl (sz rfl rfl rfl (sd rfl (yl_pick_f rfl rfl rfl rfl ?_)))))))))))
    refine sd rfl (yl_move rfl rfl (sz rfl rfl rfl (sz rfl rfl rfl (sz rfl rfl rfl (sd rfl (yl_pick_f rfl rfl rfl rfl (sd rfl (yl_assign rfl rfl (SeqR.done (tn (CW.ret ?_)))))))))))
    refine br (tr (rr rfl (.cons rfl .nil) ?_))
    have hM90 : (i_Table_isStmt p_0 p_1) = (false) := by simp only [i_Table_isStmt, hb27, hb60, hb68, cond_true, cond_false, loopE_done, loopE_ret]
    rw [hM90]
    exact ⟨rfl, (Ex.trans (Ex.trans (Ex.trans (Ex.refl w) hE20) hE26) hE67)⟩
  ·have hb60p := dec_f hb60
   refine CW.cond_f rfl hb60 (CW.seq (CW.region (sd rfl (yl_eql rfl rfl rfl (sd rfl (yl_assign rfl rfl (SeqR.done (tn (bcase (decide (p_1.Kind = 3)) (fun hb94 => ?_) (fun hb94 => ?_))))))))))
   ·have hb94p := dec_t hb94
    refine CW.cond_t rfl hb94 (CW.seq (CW.region (sd rfl (yl_fieldAddr Tryd.fd48_1 rfl rfl (sd rfl (yl_loadN (cs := [.int .i64 (p_1.Act.Kind), .slice A4 p_1.Act.Old.Vals.length c4, .slice A5 p_1.Act.New.Vals.length c5]) Tryd.ty46 rfl rfl (hB25.cells (n := 3) rfl) rfl (sd rfl (yl_call Tryd.en79 rfl (opvs_cons rfl opvs_nil) (Cal.mono (c_i_isBare p_1.Act (RdS.up (RdS.ex good_Str (RdS.ex good_Str h4 hE20) hE26) good_Str) (RdS.up (RdS.ex good_Str (RdS.ex good_Str h5 hE20) hE26) good_Str) o6.1) ?_)))))))))
    rintro v100 w99 ⟨rfl, hE101⟩
    have hE101z := Ex.size hE101
    refine sd rfl (yl_move rfl rfl (bcase (i_isBare p_1.Act) (fun hb102 => ?_) (fun hb102 => ?_)))
    ·refine sy rfl rfl hb102 (yl_loadN (cs := [.string (bs (p_0.Name)), .slice A1 p_0.Cols.length c1, .slice A2 p_0.Idxs.length c2]) Tryd.ty36 rfl rfl ((Box.ex (Box.ex hB19 hE26) hE101).cells (n := 3) rfl) rfl (sy rfl rfl hb102 (yl_fieldAddr Tryd.fd48_2 rfl rfl ?_)))
     have q105 := Box.ex hB25 hE101
     refine sy rfl rfl hb102 (yl_load1 Tryd.ty9 rfl rfl ((q105.cell 4).trans rfl) (sy rfl rfl hb102 (yl_call Tryd.en80 rfl (opvs_cons rfl (opvs_cons rfl opvs_nil)) (Cal.mono (c_i_Table_findIdx p_0 p_1.Idx (RdS.up (RdS.ex good_Str (RdS.ex good_Str (RdS.ex good_Str h1 hE20) hE26) hE101) good_Str) (RdS.up (RdS.ex good_Idx (RdS.ex good_Idx (RdS.ex good_Idx h2 hE20) hE26) hE101) good_Idx) o3 o6.2.1) ?_))))
     rintro v113 w112 ⟨rfl, hE114⟩
     have hE114z := Ex.size hE114
     have hrf115 := rf_i_findIdx p_0 p_1.Idx
     refine sy rfl rfl hb102 (yl_geq rfl rfl rfl (sd rfl (yl_pick_t rfl rfl hb102 rfl (sd rfl (yl_move rfl rfl (bcase (decide (0 ≤ (i_Table_findIdx p_0 p_1.Idx))) (fun hb116 => ?_) (fun hb116 => ?_)))))))
     ·have hb116p := dec_t hb116
      refine sy rfl rfl hb116 (yl_fieldAddr Tryd.fd48_3 rfl rfl ?_)
      have q117 := Box.ex q105 hE114
      refine sy rfl rfl hb116 (yl_load1 Tryd.ty9 rfl rfl ((q117.cell 5).trans rfl) (sy rfl rfl hb116 (yl_call Tryd.en71 rfl (opvs_cons rfl opvs_nil) (Cal.mono (c_i_isField p_1.Low o6.2.2.1) ?_))))
      rintro v119 w118 ⟨rfl, hE120⟩
      have hE120z := Ex.size hE120
      refine sd rfl (yl_pick_t rfl rfl hb116 rfl (sd rfl (yl_move rfl rfl (bcase (i_isField p_1.Low) (fun hb121 => ?_) (fun hb121 => ?_)))))
      ·refine sy rfl rfl hb121 (yl_fieldAddr Tryd.fd48_4 rfl rfl (sy rfl rfl hb121 (yl_load1 Tryd.ty9 rfl rfl (((Box.ex q117 hE120).cell 6).trans rfl) (sy rfl rfl hb121 (yl_call Tryd.en71 rfl (opvs_cons rfl opvs_nil) (Cal.mono (c_i_isField p_1.High o6.2.2.2) ?_))))))
       rintro v124 w123 ⟨rfl, hE125⟩
       have hE125z := Ex.size hE125
       refine sd rfl (yl_pick_t rfl rfl hb121 rfl (sd rfl (yl_assign rfl rfl (SeqR.done (tn (CW.ret (br (tr (rr rfl (.cons rfl .nil) ?_)))))))))
       have hM126 : (i_Table_isStmt p_0 p_1) = ((i_isField p_1.High)) := by simp only [i_Table_isStmt, hb27, hb60, hb94, hb102, hb116, hb121, cond_true, cond_false, loopE_done, loopE_ret]
       rw [hM126]
       exact ⟨rfl, (Ex.trans (Ex.trans (Ex.trans (Ex.trans (Ex.trans (Ex.trans (Ex.refl w) hE20) hE26) hE101) hE114) hE120) hE125)⟩
      ·refine sz rfl rfl hb121 (sz rfl rfl hb121 (sz rfl rfl hb121 (sd rfl (yl_pick_f rfl rfl hb121 rfl (sd rfl (yl_assign rfl rfl (SeqR.done (tn (CW.ret (br ?_))))))))))
       refine tr (rr rfl (.cons rfl .nil) ?_)
       have hM133 : (i_Table_isStmt p_0 p_1) = (false) := by simp only [i_Table_isStmt, hb27, hb60, hb94, hb102, hb116, hb121, cond_true, cond_false, loopE_done, loopE_ret]
       rw [hM133]
       exact ⟨rfl, (Ex.trans (Ex.trans (Ex.trans (Ex.trans (Ex.trans (Ex.refl w) hE20) hE26) hE101) hE114) hE120)⟩
     ·have hb116p := dec_f hb116
      refine sz rfl rfl hb116 (sz rfl rfl hb116 (sz rfl rfl hb116 (sd rfl (yl_pick_f rfl rfl hb116 rfl (sd rfl (yl_move rfl rfl (sz rfl rfl rfl (sz rfl rfl rfl (sz rfl rfl rfl (sd rfl (yl_pick_f rfl rfl rfl rfl ?_)))))))))))
      refine sd rfl (yl_assign rfl rfl (SeqR.done (tn (CW.ret (br (tr (rr rfl (.cons rfl .nil) ?_)))))))
      have hM139 : (i_Table_isStmt p_0 p_1) = (false) := by simp only [i_Table_isStmt, hb27, hb60, hb94, hb102, hb116, cond_true, cond_false, loopE_done, loopE_ret]
      rw [hM139]
      exact ⟨rfl, (Ex.trans (Ex.trans (Ex.trans (Ex.trans (Ex.refl w) hE20) hE26) hE101) hE114)⟩
    ·refine sz rfl rfl hb102 (sz rfl rfl hb102 (sz rfl rfl hb102 (sz rfl rfl hb102 (sz rfl rfl hb102 (sd rfl (yl_pick_f rfl rfl hb102 rfl (sd rfl (yl_move rfl rfl (sz rfl rfl rfl (sz rfl rfl rfl ?_))))))))))
     refine sz rfl rfl rfl (sd rfl (yl_pick_f rfl rfl rfl rfl (sd rfl (yl_move rfl rfl (sz rfl rfl rfl (sz rfl rfl rfl (sz rfl rfl rfl (sd rfl (yl_pick_f rfl rfl rfl rfl (sd rfl (yl_assign rfl rfl (SeqR.done ?_))))))))))))
     refine tn (CW.ret (br (tr (rr rfl (.cons rfl .nil) ?_))))
     have hM144 : (i_Table_isStmt p_0 p_1) = (false) := by simp only [i_Table_isStmt, hb27, hb60, hb94, hb102, cond_true, cond_false, loopE_done, loopE_ret]
     rw [hM144]
     exact ⟨rfl, (Ex.trans (Ex.trans (Ex.trans (Ex.refl w) hE20) hE26) hE101)⟩
   ·have hb94p := dec_f hb94
    refine CW.cond_f rfl hb94 (CW.skip (bn (tn (CW.seq (CW.region (sd rfl (yl_assign rfl rfl (SeqR.done (tn ?_)))))))))
    refine CW.ret (rr rfl (.cons rfl .nil) ?_)
    have hM148 : (i_Table_isStmt p_0 p_1) = (false) := by simp only [i_Table_isStmt, hb27, hb60, hb94, cond_true, cond_false, loopE_done, loopE_ret]
    rw [hM148]
    exact ⟨rfl, (Ex.trans (Ex.trans (Ex.refl w) hE20) hE26)⟩
set_option maxRecDepth 100000 in
set_option maxHeartbeats 2000000 in
theorem c_i_rowText {A1 : Option Addr} {c1 : Nat} {w : World} (p_r : DRow) (h1 : RdS w (Iv 0 w.heap.size) (RF e_Str) 1 A1 p_r.Vals.length c1 p_r.Vals) (o2 : ok_Row p_r) (pre0 : p_r.Vals.length ≤ 4) (pre1 : rowShort p_r) : Cal Tryd.prog 81 #[.agg #[.slice A1 p_r.Vals.length c1]] w fun v w' => v = .string (bs ((i_rowText p_r))) ∧ okS (i_rowText p_r) ∧ Ex w w' := by
 have hol3 := o2.1
 refine Cal.of (vs := [.agg #[.slice A1 p_r.Vals.length c1]]) Tryd.func81 rfl Tryd.ntmps81 rfl (CW.seq (CW.region (sd rfl (yl_box (cs := [.slice A1 p_r.Vals.length c1]) rfl rfl rfl ?_))))
 intro b4 w5 hs6 hz7 hB8 hE9
 refine sd rfl (yl_assign rfl rfl (SeqR.done (tn (CW.seq (CW.region (sd rfl (yl_fieldAddr Tryd.fd31_0 rfl rfl (sd rfl (yl_load1 Tryd.ty22 rfl rfl ((hB8.cell 0).trans rfl) (sd rfl (yl_call Tryd.en72 rfl (opvs_cons rfl (opvs_cons rfl opvs_nil)) (Cal.mono (c_g_strings_Join p_r.Vals ([44] : Str) (RdS.up (RdS.ex good_Str h1 hE9) good_Str) o2 (okS.lit rfl) (join_row pre0 pre1)) ?_))))))))))))
 rintro v13 w11 ⟨rfl, ho12, hE14⟩
 have hE14z := Ex.size hE14
 refine sd rfl (yl_assign rfl rfl (SeqR.done (tn (CW.ret (rr rfl (.cons rfl .nil) ?_)))))
 have hM15 : (i_rowText p_r) = ((g_strings_Join p_r.Vals ([44] : Str))) := by simp only [i_rowText, cond_true, cond_false, loopE_done, loopE_ret]
 rw [hM15]
 exact ⟨rfl, ho12, (Ex.trans (Ex.trans (Ex.refl w) hE9) hE14)⟩
set_option maxRecDepth 100000 in
set_option maxHeartbeats 2000000 in
theorem c_i_Table_stmtText {A1 : Option Addr} {c1 : Nat} {A2 : Option Addr} {c2 : Nat} {A4 : Option Addr} {c4 : Nat} {A5 : Option Addr} {c5 : Nat} {w : World} (p_0 : DTable) (p_1 : DStmt) (h1 : RdS w (Iv 0 w.heap.size) (RF e_Str) 1 A1 p_0.Cols.length c1 p_0.Cols) (h2 : RdS w (Iv 0 w.heap.size) (RF e_Idx) 3 A2 p_0.Idxs.length c2 p_0.Idxs) (h4 : RdS w (Iv 0 w.heap.size) (RF e_Str) 1 A4 p_1.Act.Old.Vals.length c4 p_1.Act.Old.Vals) (h5 : RdS w (Iv 0 w.heap.size) (RF e_Str) 1 A5 p_1.Act.New.Vals.length c5 p_1.Act.New.Vals) (o3 : ok_Table p_0) (o6 : ok_Stmt p_1) (pre0 : stmtShort p_1) : Cal Tryd.prog 62 #[.agg #[.string (bs (p_0.Name)), .slice A1 p_0.Cols.length c1, .slice A2 p_0.Idxs.length c2], .agg #[.int .i64 (p_1.Kind), .int .i64 (p_1.Act.Kind), .slice A4 p_1.Act.Old.Vals.length c4, .slice A5 p_1.Act.New.Vals.length c5, .string (bs (p_1.Idx)), .string (bs (p_1.Low)), .string (bs (p_1.High))]] w fun v w' => v = .string (bs ((i_Table_stmtText p_0 p_1))) ∧ Ex w w' := by
 have hol7 : p_0.Name.length ≤ 1073741824 := o3.1
 have hol8 := o3.2.1.1
 have hol9 := o3.2.2.1
 have hol10 := o6.1.1.1
 have hol11 := o6.1.2.1
 have hol12 : p_1.Idx.length ≤ 1073741824 := o6.2.1
 have hol13 : p_1.Low.length ≤ 1073741824 := o6.2.2.1
 have hol14 : p_1.High.length ≤ 1073741824 := o6.2.2.2
 have hsr := stmt_rows pre0
 refine Cal.of (vs := [.agg #[.string (bs (p_0.Name)), .slice A1 p_0.Cols.length c1, .slice A2 p_0.Idxs.length c2], .agg #[.int .i64 (p_1.Kind), .int .i64 (p_1.Act.Kind), .slice A4 p_1.Act.Old.Vals.length c4, .slice A5 p_1.Act.New.Vals.length c5, .string (bs (p_1.Idx)), .string (bs (p_1.Low)), .string (bs (p_1.High))]]) Tryd.func62 rfl Tryd.ntmps62 rfl (CW.seq (CW.region (sd rfl (yl_box (cs := [.string (bs (p_0.Name)), .slice A1 p_0.Cols.length c1, .slice A2 p_0.Idxs.length c2]) rfl rfl rfl ?_))))
 intro b15 w16 hs17 hz18 hB19 hE20
 refine sd rfl (yl_box (cs := [.int .i64 (p_1.Kind), .int .i64 (p_1.Act.Kind), .slice A4 p_1.Act.Old.Vals.length c4, .slice A5 p_1.Act.New.Vals.length c5, .string (bs (p_1.Idx)), .string (bs (p_1.Low)), .string (bs (p_1.High))]) rfl rfl rfl ?_)
 intro b21 w22 hs23 hz24 hB25 hE26
 refine sd rfl (yl_assign rfl rfl (SeqR.done (tn (CW.seq (CW.seq (CW.region (sd rfl (yl_fieldAddr Tryd.fd48_0 rfl rfl (sd rfl (yl_load1 Tryd.ty3 rfl rfl ((hB25.cell 0).trans rfl) (SeqR.done ?_)))))))))))
 refine tn (CW.block (CW.seq (CW.region (sd rfl (yl_eql rfl rfl rfl (sd rfl (yl_assign rfl rfl (SeqR.done (tn (bcase (decide (p_1.Kind = 2)) (fun hb27 => ?_) (fun hb27 => ?_)))))))))))
 ·have hb27p := dec_t hb27
  refine CW.cond_t rfl hb27 (CW.seq (CW.region (sd rfl (yl_fieldAddr Tryd.fd36_0 rfl rfl (sd rfl (yl_load1 Tryd.ty9 rfl rfl (((Box.ex hB19 hE26).cell 0).trans rfl) ?_))))))
  have hol29 : p_0.Name.length ≤ 1073741824 := o3.1
  refine sd rfl (yl_sadd (a := ([103, 101, 116, 32] : Str)) (b := p_0.Name) rfl rfl rfl (by first | omega | (simp only [List.length_append, List.length_cons, List.length_nil, List.length_take, List.length_drop, toS_length]; omega)) ?_)
  have hol30 : p_0.Name.length ≤ 1073741824 := o3.1
  refine sd rfl (yl_sadd (a := (([103, 101, 116, 32] : Str) ++ p_0.Name)) (b := ([32] : Str)) rfl rfl rfl (by first | omega | (simp only [List.length_append, List.length_cons, List.length_nil, List.length_take, List.length_drop, toS_length]; omega)) (sd rfl (yl_fieldAddr Tryd.fd48_3 rfl rfl (sd rfl (yl_load1 Tryd.ty9 rfl rfl ((hB25.cell 5).trans rfl) ?_)))))
  have hol31 : p_0.Name.length ≤ 1073741824 := o3.1
  have hol32 : p_1.Low.length ≤ 1073741824 := o6.2.2.1
  refine sd rfl (yl_sadd (a := ((([103, 101, 116, 32] : Str) ++ p_0.Name) ++ ([32] : Str))) (b := p_1.Low) rfl rfl rfl (by first | omega | (simp only [List.length_append, List.length_cons, List.length_nil, List.length_take, List.length_drop, toS_length]; omega)) (sd rfl (yl_assign rfl rfl (SeqR.done (tn (CW.ret (br (tr (rr rfl (.cons rfl .nil) ?_)))))))))
  have hM33 : (i_Table_stmtText p_0 p_1) = (((([103, 101, 116, 32] : Str) ++ p_0.Name) ++ ([32] : Str)) ++ p_1.Low) := by simp only [i_Table_stmtText, hb27, cond_true, cond_false, loopE_done, loopE_ret]
  rw [hM33]
  exact ⟨rfl, (Ex.trans (Ex.trans (Ex.refl w) hE20) hE26)⟩
 ·have hb27p := dec_f hb27
  refine CW.cond_f rfl hb27 (CW.seq (CW.region (sd rfl (yl_eql rfl rfl rfl (sd rfl (yl_assign rfl rfl (SeqR.done (tn (bcase (decide (p_1.Kind = 3)) (fun hb36 => ?_) (fun hb36 => ?_))))))))))
  ·have hb36p := dec_t hb36
   refine CW.cond_t rfl hb36 (CW.seq (CW.region (sd rfl (yl_fieldAddr Tryd.fd36_0 rfl rfl (sd rfl (yl_load1 Tryd.ty9 rfl rfl (((Box.ex hB19 hE26).cell 0).trans rfl) ?_))))))
   have hol38 : p_0.Name.length ≤ 1073741824 := o3.1
   refine sd rfl (yl_sadd (a := ([114, 97, 110, 103, 101, 32] : Str)) (b := p_0.Name) rfl rfl rfl (by first | omega | (simp only [List.length_append, List.length_cons, List.length_nil, List.length_take, List.length_drop, toS_length]; omega)) ?_)
   have hol39 : p_0.Name.length ≤ 1073741824 := o3.1
   refine sd rfl (yl_sadd (a := (([114, 97, 110, 103, 101, 32] : Str) ++ p_0.Name)) (b := ([32] : Str)) rfl rfl rfl (by first | omega | (simp only [List.length_append, List.length_cons, List.length_nil, List.length_take, List.length_drop, toS_length]; omega)) (sd rfl (yl_fieldAddr Tryd.fd48_2 rfl rfl (sd rfl (yl_load1 Tryd.ty9 rfl rfl ((hB25.cell 4).trans rfl) ?_)))))
   have hol40 : p_0.Name.length ≤ 1073741824 := o3.1
   have hol41 : p_1.Idx.length ≤ 1073741824 := o6.2.1
   refine sd rfl (yl_sadd (a := ((([114, 97, 110, 103, 101, 32] : Str) ++ p_0.Name) ++ ([32] : Str))) (b := p_1.Idx) rfl rfl rfl (by first | omega | (simp only [List.length_append, List.length_cons, List.length_nil, List.length_take, List.length_drop, toS_length]; omega)) ?_)
   have hol42 : p_0.Name.length ≤ 1073741824 := o3.1
   have hol43 : p_1.Idx.length ≤ 1073741824 := o6.2.1
   refine sd rfl (yl_sadd (a := (((([114, 97, 110, 103, 101, 32] : Str) ++ p_0.Name) ++ ([32] : Str)) ++ p_1.Idx)) (b := ([32] : Str)) rfl rfl rfl (by first | omega | (simp only [List.length_append, List.length_cons, List.length_nil, List.length_take, List.length_drop, toS_length]; omega)) (sd rfl (yl_fieldAddr Tryd.fd48_3 rfl rfl (sd rfl (yl_load1 Tryd.ty9 rfl rfl ((hB25.cell 5).trans rfl) ?_)))))
   have hol44 : p_0.Name.length ≤ 1073741824 := o3.1
   have hol45 : p_1.Idx.length ≤ 1073741824 := o6.2.1
   have hol46 : p_1.Low.length ≤ 1073741824 := o6.2.2.1
   refine sd rfl (yl_sadd (a := ((((([114, 97, 110, 103, 101, 32] : Str) ++ p_0.Name) ++ ([32] : Str)) ++ p_1.Idx) ++ ([32] : Str))) (b := p_1.Low) rfl rfl rfl (by first | omega | (simp only [List.length_append, List.length_cons, List.length_nil, List.length_take, List.length_drop, toS_length]; omega)) ?_)
   have hol47 : p_0.Name.length ≤ 1073741824 := o3.1
   have hol48 : p_1.Idx.length ≤ 1073741824 := o6.2.1
   have hol49 : p_1.Low.length ≤ 1073741824 := o6.2.2.1
   refine sd rfl (yl_sadd (a := (((((([114, 97, 110, 103, 101, 32] : Str) ++ p_0.Name) ++ ([32] : Str)) ++ p_1.Idx) ++ ([32] : Str)) ++ p_1.Low)) (b := ([32] : Str)) rfl rfl rfl (by first | omega | (simp only [List.length_append, List.length_cons, List.length_nil, List.length_take, List.length_drop, toS_length]; omega)) (sd rfl (yl_fieldAddr Tryd.fd48_4 rfl rfl (sd rfl (yl_load1 Tryd.ty9 rfl rfl ((hB25.cell 6).trans rfl) ?_)))))
   have hol50 : p_0.Name.length ≤ 1073741824 := o3.1
   have hol51 : p_1.Idx.length ≤ 1073741824 := o6.2.1
   have hol52 : p_1.Low.length ≤ 1073741824 := o6.2.2.1
   have hol53 : p_1.High.length ≤ 1073741824 := o6.2.2.2
   refine sd rfl (yl_sadd (a := ((((((([114, 97, 110, 103, 101, 32] : Str) ++ p_0.Name) ++ ([32] : Str)) ++ p_1.Idx) ++ ([32] : Str)) ++ p_1.Low) ++ ([32] : Str))) (b := p_1.High) rfl rfl rfl (by first | omega | (simp only [List.length_append, List.length_cons, List.length_nil, List.length_take, List.length_drop, toS_length]; omega)) (sd rfl (yl_assign rfl rfl (SeqR.done (tn (CW.ret (br (tr (rr rfl (.cons rfl .nil) ?_)))))))))
   have hM54 : (i_Table_stmtText p_0 p_1) = (((((((([114, 97, 110, 103, 101, 32] : Str) ++ p_0.Name) ++ ([32] : Str)) ++ p_1.Idx) ++ ([32] : Str)) ++ p_1.Low) ++ ([32] : Str)) ++ p_1.High) := by simp only [i_Table_stmtText, hb27, hb36, cond_true, cond_false, loopE_done, loopE_ret]
   rw [hM54]
   exact ⟨rfl, (Ex.trans (Ex.trans (Ex.refl w) hE20) hE26)⟩
  ·have hb36p := dec_f hb36
   refine CW.cond_f rfl hb36 (CW.skip (bn (tn (CW.seq (CW.seq (CW.region (sd rfl (yl_fieldAddr Tryd.fd48_1 rfl rfl (sd rfl (yl_fieldAddr Tryd.fd46_0 rfl rfl ?_))))))))))
   refine sd rfl (yl_load1 Tryd.ty3 rfl rfl ((hB25.cell 1).trans rfl) (SeqR.done (tn (CW.block (CW.seq (CW.region (sd rfl (yl_eql rfl rfl rfl (sd rfl (yl_assign rfl rfl (SeqR.done ?_)))))))))))
   refine tn (bcase (decide (p_1.Act.Kind = 1)) (fun hb57 => ?_) (fun hb57 => ?_))
   ·have hb57p := dec_t hb57
    refine CW.cond_t rfl hb57 (CW.seq ?_)
    have hol59 : p_0.Name.length ≤ 1073741824 := o3.1
    have hol60 : p_0.Name.length ≤ 1073741824 := o3.1
    have hol65 : p_0.Name.length ≤ 1073741824 := o3.1
    refine CW.drawsI 10 (vgetI [DetI (.pointer (some ⟨b15, 0 + 0, none⟩)), DetI (.string (bs (p_0.Name))), DetI (.string (bs (([105, 110, 115, 101, 114, 116, 32] : Str) ++ p_0.Name))), DetI (.string (bs ((([105, 110, 115, 101, 114, 116, 32] : Str) ++ p_0.Name) ++ ([32] : Str)))), DetI (.pointer (some ⟨b21, 0 + 1, none⟩)), DetI (.pointer (some ⟨b21, 0 + 1 + 2, none⟩)), DetI (.agg #[.slice A5 p_1.Act.New.Vals.length c5]), fun lo hi v wq => v = .string (bs ((i_rowText p_1.Act.New))) ∧ okS (i_rowText p_1.Act.New), DetI (.string (bs (((([105, 110, 115, 101, 114, 116, 32] : Str) ++ p_0.Name) ++ ([32] : Str)) ++ (i_rowText p_1.Act.New)))), DetI (.string (bs (((([105, 110, 115, 101, 114, 116, 32] : Str) ++ p_0.Name) ++ ([32] : Str)) ++ (i_rowText p_1.Act.New))))]) Tryd.follows rfl rfl rfl rfl rfl rfl (vgetI_stable ⟨StableI.det _, StableI.det _, StableI.det _, StableI.det _, StableI.det _, StableI.det _, StableI.det _, (fun _ _ _ _ _ ⟨hv, ho64⟩ e => ⟨hv, ho64⟩), StableI.det _, StableI.det _, trivial⟩) ⟨?_, ?_, ?_, ?_, ?_, ?_, ?_, ?_, ?_, ?_, trivial⟩ ?_
    ·exact fun _ _ h => os rfl ((yl_fieldAddr Tryd.fd36_0 rfl (h.old 2 _ rfl rfl) kI))
    ·exact fun _ _ h => os rfl ((yl_load1 Tryd.ty9 rfl (h.dt 0 38 rfl rfl rfl) (((Box.ex (Box.ex hB19 hE26) h.ex).cell 0).trans rfl) kI))
    ·intro L77 w78 hi79
     have hE80 := hi79.ex
     have hE80z := Ex.size hE80
     have hol82 : p_0.Name.length ≤ 1073741824 := o3.1
     exact os rfl ((yl_sadd (a := ([105, 110, 115, 101, 114, 116, 32] : Str)) (b := p_0.Name) rfl rfl (hi79.dt 1 39 rfl rfl rfl) (by first | omega | (simp only [List.length_append, List.length_cons, List.length_nil, List.length_take, List.length_drop, toS_length]; omega)) kI))
    ·intro L83 w84 hi85
     have hE86 := hi85.ex
     have hE86z := Ex.size hE86
     have hol88 : p_0.Name.length ≤ 1073741824 := o3.1
     exact os rfl ((yl_sadd (a := (([105, 110, 115, 101, 114, 116, 32] : Str) ++ p_0.Name)) (b := ([32] : Str)) rfl (hi85.dt 2 40 rfl rfl rfl) rfl (by first | omega | (simp only [List.length_append, List.length_cons, List.length_nil, List.length_take, List.length_drop, toS_length]; omega)) kI))
    ·exact fun _ _ h => os rfl ((yl_fieldAddr Tryd.fd48_1 rfl (h.old 3 _ rfl rfl) kI))
    ·exact fun _ _ h => os rfl ((yl_fieldAddr Tryd.fd46_2 rfl (h.dt 4 42 rfl rfl rfl) kI))
    ·exact fun _ _ h => os rfl ((yl_loadN (cs := [.slice A5 p_1.Act.New.Vals.length c5]) Tryd.ty31 rfl (h.dt 5 43 rfl rfl rfl) ((Box.ex hB25 h.ex).cells (n := 1) rfl) rfl kI))
    ·intro L105 w106 hi107
     have hE108 := hi107.ex
     have hE108z := Ex.size hE108
     refine OpR.op' rfl (yl_call Tryd.en81 rfl (opvs_cons (hi107.dt 6 44 rfl rfl rfl) opvs_nil) (Cal.mono (c_i_rowText p_1.Act.New (RdS.up (RdS.ex good_Str (RdS.ex good_Str (RdS.ex good_Str h5 hE20) hE26) hE108) good_Str) o6.1.2 ((pre0 (by omega) (by omega)).1 (by omega)).2.1 ((pre0 (by omega) (by omega)).1 (by omega)).2.2) ?_))
     rintro v113 w111 ⟨rfl, ho112, hE114⟩
     exact ⟨⟨rfl, ho112⟩, hE114⟩
    ·intro L115 w116 hi117
     have hE118 := hi117.ex
     have hE118z := Ex.size hE118
     obtain ⟨lo121, hh122, _, hx120, hr123, hr124, hr125, rfl, h126⟩ := hi117.dep 7 45 rfl rfl
     have hol127 : p_0.Name.length ≤ 1073741824 := o3.1
     have hol128 : (i_rowText p_1.Act.New).length ≤ 1073741824 := h126
     exact os rfl ((yl_sadd (a := ((([105, 110, 115, 101, 114, 116, 32] : Str) ++ p_0.Name) ++ ([32] : Str))) (b := (i_rowText p_1.Act.New)) rfl (hi117.dt 3 41 rfl rfl rfl) hx120 (by first | omega | (simp only [List.length_append, List.length_cons, List.length_nil, List.length_take, List.length_drop, toS_length]; omega)) kI))
    ·exact fun _ _ h => os rfl ((yl_assign rfl (h.dt 8 46 rfl rfl rfl) kI))
    ·intro fl137 fh138 L134 w135 hp136
     have hE139 := hp136.ex
     have hE139z := Ex.size hE139
     refine SeqR.done (tn (CW.sub (Sub.cons (d := 4) (hp136.nt 9 4 rfl rfl rfl) (Sub.nil _)) (CW.ret (br (tr (rr rfl (.cons rfl .nil) ?_))))))
     have hM141 : (i_Table_stmtText p_0 p_1) = (((([105, 110, 115, 101, 114, 116, 32] : Str) ++ p_0.Name) ++ ([32] : Str)) ++ (i_rowText p_1.Act.New)) := by simp only [i_Table_stmtText, hb27, hb36, hb57, cond_true, cond_false, loopE_done, loopE_ret]
     rw [hM141]
     exact ⟨rfl, (Ex.trans (Ex.trans (Ex.trans (Ex.refl w) hE20) hE26) hE139)⟩
   ·have hb57p := dec_f hb57
    refine CW.cond_f rfl hb57 (CW.seq (CW.region (sd rfl (yl_eql rfl rfl rfl (sd rfl (yl_assign rfl rfl (SeqR.done (tn (bcase (decide (p_1.Act.Kind = 2)) (fun hb145 => ?_) (fun hb145 => ?_))))))))))
    ·have hb145p := dec_t hb145
     refine CW.cond_t rfl hb145 (CW.seq ?_)
     have hol147 : p_0.Name.length ≤ 1073741824 := o3.1
     have hol148 : p_0.Name.length ≤ 1073741824 := o3.1
     have hol153 : p_0.Name.length ≤ 1073741824 := o3.1
     refine CW.drawsI 10 (vgetI [DetI (.pointer (some ⟨b15, 0 + 0, none⟩)), DetI (.string (bs (p_0.Name))), DetI (.string (bs (([100, 101, 108, 101, 116, 101, 32] : Str) ++ p_0.Name))), DetI (.string (bs ((([100, 101, 108, 101, 116, 101, 32] : Str) ++ p_0.Name) ++ ([32] : Str)))), DetI (.pointer (some ⟨b21, 0 + 1, none⟩)), DetI (.pointer (some ⟨b21, 0 + 1 + 1, none⟩)), DetI (.agg #[.slice A4 p_1.Act.Old.Vals.length c4]), fun lo hi v wq => v = .string (bs ((i_rowText p_1.Act.Old))) ∧ okS (i_rowText p_1.Act.Old), DetI (.string (bs (((([100, 101, 108, 101, 116, 101, 32] : Str) ++ p_0.Name) ++ ([32] : Str)) ++ (i_rowText p_1.Act.Old)))), DetI (.string (bs (((([100, 101, 108, 101, 116, 101, 32] : Str) ++ p_0.Name) ++ ([32] : Str)) ++ (i_rowText p_1.Act.Old))))]) Tryd.follows rfl rfl rfl rfl rfl rfl (vgetI_stable ⟨StableI.det _, StableI.det _, StableI.det _, StableI.det _, StableI.det _, StableI.det _, StableI.det _, (fun _ _ _ _ _ ⟨hv, ho152⟩ e => ⟨hv, ho152⟩), StableI.det _, StableI.det _, trivial⟩) ⟨?_, ?_, ?_, ?_, ?_, ?_, ?_, ?_, ?_, ?_, trivial⟩ ?_
     ·exact fun _ _ h => os rfl ((yl_fieldAddr Tryd.fd36_0 rfl (h.old 2 _ rfl rfl) kI))
     ·exact fun _ _ h => os rfl ((yl_load1 Tryd.ty9 rfl (h.dt 0 49 rfl rfl rfl) (((Box.ex (Box.ex hB19 hE26) h.ex).cell 0).trans rfl) kI))
     ·intro L165 w166 hi167
      have hE168 := hi167.ex
      have hE168z := Ex.size hE168
      have hol170 : p_0.Name.length ≤ 1073741824 := o3.1
      exact os rfl ((yl_sadd (a := ([100, 101, 108, 101, 116, 101, 32] : Str)) (b := p_0.Name) rfl rfl (hi167.dt 1 50 rfl rfl rfl) (by first | omega | (simp only [List.length_append, List.length_cons, List.length_nil, List.length_take, List.length_drop, toS_length]; omega)) kI))
     ·intro L171 w172 hi173
      have hE174 := hi173.ex
      have hE174z := Ex.size hE174
      have hol176 : p_0.Name.length ≤ 1073741824 := o3.1
      exact os rfl ((yl_sadd (a := (([100, 101, 108, 101, 116, 101, 32] : Str) ++ p_0.Name)) (b := ([32] : Str)) rfl (hi173.dt 2 51 rfl rfl rfl) rfl (by first | omega | (simp only [List.length_append, List.length_cons, List.length_nil, List.length_take, List.length_drop, toS_length]; omega)) kI))
     ·exact fun _ _ h => os rfl ((yl_fieldAddr Tryd.fd48_1 rfl (h.old 3 _ rfl rfl) kI))
     ·exact fun _ _ h => os rfl ((yl_fieldAddr Tryd.fd46_1 rfl (h.dt 4 53 rfl rfl rfl) kI))
     ·exact fun _ _ h => os rfl ((yl_loadN (cs := [.slice A4 p_1.Act.Old.Vals.length c4]) Tryd.ty31 rfl (h.dt 5 54 rfl rfl rfl) ((Box.ex hB25 h.ex).cells (n := 1) rfl) rfl kI))
     ·intro L193 w194 hi195
      have hE196 := hi195.ex
      have hE196z := Ex.size hE196
      refine OpR.op' rfl (yl_call Tryd.en81 rfl (opvs_cons (hi195.dt 6 55 rfl rfl rfl) opvs_nil) (Cal.mono (c_i_rowText p_1.Act.Old (RdS.up (RdS.ex good_Str (RdS.ex good_Str (RdS.ex good_Str h4 hE20) hE26) hE196) good_Str) o6.1.1 ((pre0 (by omega) (by omega)).2 (by omega)).2.1 ((pre0 (by omega) (by omega)).2 (by omega)).2.2) ?_))
      rintro v201 w199 ⟨rfl, ho200, hE202⟩
      exact ⟨⟨rfl, ho200⟩, hE202⟩
     ·intro L203 w204 hi205
      have hE206 := hi205.ex
      have hE206z := Ex.size hE206
      obtain ⟨lo209, hh210, _, hx208, hr211, hr212, hr213, rfl, h214⟩ := hi205.dep 7 56 rfl rfl
      have hol215 : p_0.Name.length ≤ 1073741824 := o3.1
      have hol216 : (i_rowText p_1.Act.Old).length ≤ 1073741824 := h214
      exact os rfl ((yl_sadd (a := ((([100, 101, 108, 101, 116, 101, 32] : Str) ++ p_0.Name) ++ ([32] : Str))) (b := (i_rowText p_1.Act.Old)) rfl (hi205.dt 3 52 rfl rfl rfl) hx208 (by first | omega | (simp only [List.length_append, List.length_cons, List.length_nil, List.length_take, List.length_drop, toS_length]; omega)) kI))
     ·exact fun _ _ h => os rfl ((yl_assign rfl (h.dt 8 57 rfl rfl rfl) kI))
     ·intro fl225 fh226 L222 w223 hp224
      have hE227 := hp224.ex
      have hE227z := Ex.size hE227
      refine SeqR.done (tn (CW.sub (Sub.cons (d := 4) (hp224.nt 9 4 rfl rfl rfl) (Sub.nil _)) (CW.ret (br (tr (rr rfl (.cons rfl .nil) ?_))))))
      have hM229 : (i_Table_stmtText p_0 p_1) = (((([100, 101, 108, 101, 116, 101, 32] : Str) ++ p_0.Name) ++ ([32] : Str)) ++ (i_rowText p_1.Act.Old)) := by simp only [i_Table_stmtText, hb27, hb36, hb57, hb145, cond_true, cond_false, loopE_done, loopE_ret]
      rw [hM229]
      exact ⟨rfl, (Ex.trans (Ex.trans (Ex.trans (Ex.refl w) hE20) hE26) hE227)⟩
    ·have hb145p := dec_f hb145
     refine CW.cond_f rfl hb145 (CW.skip (bn (tn (CW.seq ?_))))
     have hol234 : p_0.Name.length ≤ 1073741824 := o3.1
     have hol235 : p_0.Name.length ≤ 1073741824 := o3.1
     have hol240 : p_0.Name.length ≤ 1073741824 := o3.1
     have hol241 : p_0.Name.length ≤ 1073741824 := o3.1
     have hol246 : p_0.Name.length ≤ 1073741824 := o3.1
     refine CW.drawsI 16 (vgetI [DetI (.pointer (some ⟨b15, 0 + 0, none⟩)), DetI (.string (bs (p_0.Name))), DetI (.string (bs (([117, 112, 100, 97, 116, 101, 32] : Str) ++ p_0.Name))), DetI (.string (bs ((([117, 112, 100, 97, 116, 101, 32] : Str) ++ p_0.Name) ++ ([32] : Str)))), DetI (.pointer (some ⟨b21, 0 + 1, none⟩)), DetI (.pointer (some ⟨b21, 0 + 1 + 1, none⟩)), DetI (.agg #[.slice A4 p_1.Act.Old.Vals.length c4]), fun lo hi v wq => v = .string (bs ((i_rowText p_1.Act.Old))) ∧ okS (i_rowText p_1.Act.Old), DetI (.string (bs (((([117, 112, 100, 97, 116, 101, 32] : Str) ++ p_0.Name) ++ ([32] : Str)) ++ (i_rowText p_1.Act.Old)))), DetI (.string (bs ((((([117, 112, 100, 97, 116, 101, 32] : Str) ++ p_0.Name) ++ ([32] : Str)) ++ (i_rowText p_1.Act.Old)) ++ ([32, 116, 111, 32] : Str)))), DetI (.pointer (some ⟨b21, 0 + 1, none⟩)), DetI (.pointer (some ⟨b21, 0 + 1 + 2, none⟩)), DetI (.agg #[.slice A5 p_1.Act.New.Vals.length c5]), fun lo hi v wq => v = .string (bs ((i_rowText p_1.Act.New))) ∧ okS (i_rowText p_1.Act.New), DetI (.string (bs (((((([117, 112, 100, 97, 116, 101, 32] : Str) ++ p_0.Name) ++ ([32] : Str)) ++ (i_rowText p_1.Act.Old)) ++ ([32, 116, 111, 32] : Str)) ++ (i_rowText p_1.Act.New)))), DetI (.string (bs (((((([117, 112, 100, 97, 116, 101, 32] : Str) ++ p_0.Name) ++ ([32] : Str)) ++ (i_rowText p_1.Act.Old)) ++ ([32, 116, 111, 32] : Str)) ++ (i_rowText p_1.Act.New))))]) Tryd.follows rfl rfl rfl rfl rfl rfl (vgetI_stable ⟨StableI.det _, StableI.det _, StableI.det _, StableI.det _, StableI.det _, StableI.det _, StableI.det _, (fun _ _ _ _ _ ⟨hv, ho239⟩ e => ⟨hv, ho239⟩), StableI.det _, StableI.det _, StableI.det _, StableI.det _, StableI.det _, (fun _ _ _ _ _ ⟨hv, ho245⟩ e => ⟨hv, ho245⟩), StableI.det _, StableI.det _, trivial⟩) ⟨?_, ?_, ?_, ?_, ?_, ?_, ?_, ?_, ?_, ?_, ?_, ?_, ?_, ?_, ?_, ?_, trivial⟩ ?_
     ·exact fun _ _ h => os rfl ((yl_fieldAddr Tryd.fd36_0 rfl (h.old 2 _ rfl rfl) kI))
     ·exact fun _ _ h => os rfl ((yl_load1 Tryd.ty9 rfl (h.dt 0 58 rfl rfl rfl) (((Box.ex (Box.ex hB19 hE26) h.ex).cell 0).trans rfl) kI))
     ·intro L258 w259 hi260
      have hE261 := hi260.ex
      have hE261z := Ex.size hE261
      have hol263 : p_0.Name.length ≤ 1073741824 := o3.1
      exact os rfl ((yl_sadd (a := ([117, 112, 100, 97, 116, 101, 32] : Str)) (b := p_0.Name) rfl rfl (hi260.dt 1 59 rfl rfl rfl) (by first | omega | (simp only [List.length_append, List.length_cons, List.length_nil, List.length_take, List.length_drop, toS_length]; omega)) kI))
     ·intro L264 w265 hi266
      have hE267 := hi266.ex
      have hE267z := Ex.size hE267
      have hol269 : p_0.Name.length ≤ 1073741824 := o3.1
      exact os rfl ((yl_sadd (a := (([117, 112, 100, 97, 116, 101, 32] : Str) ++ p_0.Name)) (b := ([32] : Str)) rfl (hi266.dt 2 60 rfl rfl rfl) rfl (by first | omega | (simp only [List.length_append, List.length_cons, List.length_nil, List.length_take, List.length_drop, toS_length]; omega)) kI))
     ·exact fun _ _ h => os rfl ((yl_fieldAddr Tryd.fd48_1 rfl (h.old 3 _ rfl rfl) kI))
     ·exact fun _ _ h => os rfl ((yl_fieldAddr Tryd.fd46_1 rfl (h.dt 4 62 rfl rfl rfl) kI))
     ·exact fun _ _ h => os rfl ((yl_loadN (cs := [.slice A4 p_1.Act.Old.Vals.length c4]) Tryd.ty31 rfl (h.dt 5 63 rfl rfl rfl) ((Box.ex hB25 h.ex).cells (n := 1) rfl) rfl kI))
     ·intro L286 w287 hi288
      have hE289 := hi288.ex
      have hE289z := Ex.size hE289
      refine OpR.op' rfl (yl_call Tryd.en81 rfl (opvs_cons (hi288.dt 6 64 rfl rfl rfl) opvs_nil) (Cal.mono (c_i_rowText p_1.Act.Old (RdS.up (RdS.ex good_Str (RdS.ex good_Str (RdS.ex good_Str h4 hE20) hE26) hE289) good_Str) o6.1.1 ((pre0 (by omega) (by omega)).2 (by omega)).2.1 ((pre0 (by omega) (by omega)).2 (by omega)).2.2) ?_))
      rintro v294 w292 ⟨rfl, ho293, hE295⟩
      exact ⟨⟨rfl, ho293⟩, hE295⟩
     ·intro L296 w297 hi298
      have hE299 := hi298.ex
      have hE299z := Ex.size hE299
      obtain ⟨lo302, hh303, _, hx301, hr304, hr305, hr306, rfl, h307⟩ := hi298.dep 7 65 rfl rfl
      have hol308 : p_0.Name.length ≤ 1073741824 := o3.1
      have hol309 : (i_rowText p_1.Act.Old).length ≤ 1073741824 := h307
      exact os rfl ((yl_sadd (a := ((([117, 112, 100, 97, 116, 101, 32] : Str) ++ p_0.Name) ++ ([32] : Str))) (b := (i_rowText p_1.Act.Old)) rfl (hi298.dt 3 61 rfl rfl rfl) hx301 (by first | omega | (simp only [List.length_append, List.length_cons, List.length_nil, List.length_take, List.length_drop, toS_length]; omega)) kI))
     ·intro L310 w311 hi312
      have hE313 := hi312.ex
      have hE313z := Ex.size hE313
      have hol315 : p_0.Name.length ≤ 1073741824 := o3.1
      exact os rfl ((yl_sadd (a := (((([117, 112, 100, 97, 116, 101, 32] : Str) ++ p_0.Name) ++ ([32] : Str)) ++ (i_rowText p_1.Act.Old))) (b := ([32, 116, 111, 32] : Str)) rfl (hi312.dt 8 66 rfl rfl rfl) rfl (by first | omega | (simp only [List.length_append, List.length_cons, List.length_nil, List.length_take, List.length_drop, toS_length]; omega)) kI))
     ·exact fun _ _ h => os rfl ((yl_fieldAddr Tryd.fd48_1 rfl (h.old 3 _ rfl rfl) kI))
     ·exact fun _ _ h => os rfl ((yl_fieldAddr Tryd.fd46_2 rfl (h.dt 10 68 rfl rfl rfl) kI))
     ·exact fun _ _ h => os rfl ((yl_loadN (cs := [.slice A5 p_1.Act.New.Vals.length c5]) Tryd.ty31 rfl (h.dt 11 69 rfl rfl rfl) ((Box.ex hB25 h.ex).cells (n := 1) rfl) rfl kI))
     ·intro L332 w333 hi334
      have hE335 := hi334.ex
      have hE335z := Ex.size hE335
      refine OpR.op' rfl (yl_call Tryd.en81 rfl (opvs_cons (hi334.dt 12 70 rfl rfl rfl) opvs_nil) (Cal.mono (c_i_rowText p_1.Act.New (RdS.up (RdS.ex good_Str (RdS.ex good_Str (RdS.ex good_Str h5 hE20) hE26) hE335) good_Str) o6.1.2 ((pre0 (by omega) (by omega)).1 (by omega)).2.1 ((pre0 (by omega) (by omega)).1 (by omega)).2.2) ?_))
      rintro v340 w338 ⟨rfl, ho339, hE341⟩
      exact ⟨⟨rfl, ho339⟩, hE341⟩
     ·intro L342 w343 hi344
      have hE345 := hi344.ex
      have hE345z := Ex.size hE345
      obtain ⟨lo348, hh349, _, hx347, hr350, hr351, hr352, rfl, h353⟩ := hi344.dep 13 71 rfl rfl
      have hol354 : p_0.Name.length ≤ 1073741824 := o3.1
      have hol355 : (i_rowText p_1.Act.New).length ≤ 1073741824 := h353
      exact os rfl ((yl_sadd (a := ((((([117, 112, 100, 97, 116, 101, 32] : Str) ++ p_0.Name) ++ ([32] : Str)) ++ (i_rowText p_1.Act.Old)) ++ ([32, 116, 111, 32] : Str))) (b := (i_rowText p_1.Act.New)) rfl (hi344.dt 9 67 rfl rfl rfl) hx347 (by first | omega | (simp only [List.length_append, List.length_cons, List.length_nil, List.length_take, List.length_drop, toS_length]; omega)) kI))
     ·exact fun _ _ h => os rfl ((yl_assign rfl (h.dt 14 72 rfl rfl rfl) kI))
     ·intro fl364 fh365 L361 w362 hp363
      have hE366 := hp363.ex
      have hE366z := Ex.size hE366
      refine SeqR.done (tn (CW.sub (Sub.cons (d := 4) (hp363.nt 15 4 rfl rfl rfl) (Sub.nil _)) (CW.ret (rr rfl (.cons rfl .nil) ?_))))
      have hM368 : (i_Table_stmtText p_0 p_1) = (((((([117, 112, 100, 97, 116, 101, 32] : Str) ++ p_0.Name) ++ ([32] : Str)) ++ (i_rowText p_1.Act.Old)) ++ ([32, 116, 111, 32] : Str)) ++ (i_rowText p_1.Act.New)) := by simp only [i_Table_stmtText, hb27, hb36, hb57, hb145, cond_true, cond_false, loopE_done, loopE_ret]
      rw [hM368]
      exact ⟨rfl, (Ex.trans (Ex.trans (Ex.trans (Ex.refl w) hE20) hE26) hE366)⟩
end Go.Proofs.YtdbobbmagmcpnaaDoor
