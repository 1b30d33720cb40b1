/- Fill Ops: what each call returns, part 3. -/
import Derived.Test.YtjeafbkejeallaaFillOpsC2
set_option linter.unusedVariables false
set_option linter.unusedSimpArgs false
namespace Go.Proofs.Ytjeafbkejeallaa
open Go.RowKit Go.X
set_option maxRecDepth 100000 in
set_option maxHeartbeats 2000000 in
theorem c_l_heldOpS {A1 : Option Addr} {c1 : Nat} {w : World} (p_a : List DOp) (p_k : Int) (h1 : RdS w (Iv 0 w.heap.size) (RF e_Op) 4 A1 p_a.length c1 p_a) (pre0 : p_k ≤ 9223372036854775807) : Cal Try.prog 44 #[.slice A1 p_a.length c1, .int .i64 (p_k)] w fun v w' => v = .int .i64 ((l_heldOpS p_a p_k)) ∧ Ex w w' := by
 refine Cal.of (vs := [.slice A1 p_a.length c1, .int .i64 (p_k)]) Try.func44 rfl Try.ntmps44 rfl (CW.seq (CW.region (sd rfl (yl_assign rfl rfl (SeqR.done (tn (CW.seq (CW.seq (CW.region ?_)))))))))
 refine sd rfl (yl_assign rfl rfl (SeqR.done (tn (CW.block (CW.loop (fun m4 L5 w6 => ∃ (k2 : Nat) (x3 : Int), m4 = p_a.length - k2 ∧ k2 ≤ p_a.length ∧ w.heap.size ≤ w6.heap.size ∧ lkp L5 0 = some (.slice A1 p_a.length c1) ∧ lkp L5 1 = some (.int .i64 (x3)) ∧ lkp L5 5 = some (.int .i64 ((k2 : Int))) ∧ RdS w6 (Iv 0 w.heap.size) (RF e_Op) 4 A1 p_a.length c1 p_a ∧ Ex w w6 ∧ x3 ≤ 9223372036854775807 ∧ loopM (B_l_heldOpS_0 p_a p_k) (p_a.length - k2) k2 (x3) = loopM (B_l_heldOpS_0 p_a p_k) (p_a.length - 0) 0 (p_k)) (p_a.length - 0) ?_ ?_)))))
 ·exact ⟨0, p_k, rfl, (by omega), Nat.le_refl _, rfl, rfl, rfl, h1, (Ex.refl w), (by first | omega | assumption | (simp only [IntKind.wrap_i64] at *; omega)), rfl⟩
 ·rintro m7 L8 w9 ⟨k2, x3, rfl, hk10, hsz12, hl13, hl14, hl15, hf16, hf17, hv18, hI11⟩
  refine CW.sub (Sub.cons hl13 (Sub.cons hl14 (Sub.cons hl15 (Sub.nil _)))) ?_
  have hf17z := Ex.size hf17
  have hbg19 := RdS.big hf16
  rcases Nat.lt_or_ge k2 p_a.length with hlt20 | hlt20
  ·refine CW.seq (CW.seq (CW.region (sd rfl (yl_move rfl rfl (sd rfl (yl_move rfl rfl (sd rfl (yl_len Try.un60 rfl rfl (sd rfl (yl_lss rfl rfl rfl (SeqR.done (tn ?_))))))))))))
   refine CW.cond_t rfl (lt_t hlt20) (CW.skip (tn (CW.seq (CW.block (CW.seq (CW.seq (CW.region (sd rfl (yl_move rfl rfl ?_)))))))))
   refine sd rfl (yl_move rfl rfl ?_)
   obtain ⟨eb21, eo21, ec21, eA21, eS21, ebl21, el21, eR21, eC21⟩ := RdS.atD hf16 d_Op (i := k2) (by first | omega | assumption)
   obtain rfl := eR21
   have eC21 : Cells w9 eb21 (eo21 + k2 * 4) [.int .i64 ((p_a.getD k2 d_Op).Kind), .string (bs ((p_a.getD k2 d_Op).Key)), .string (bs ((p_a.getD k2 d_Op).Val)), .int .i64 ((p_a.getD k2 d_Op).By)] := eC21
   refine sd rfl (yl_indexAddrN Try.un60 Try.ty163 rfl rfl rfl eA21 (by first | omega | assumption | (simp only [IntKind.wrap_i64] at *; omega)) (sd rfl (yl_fieldAddr Try.fd163_0 rfl rfl (sd rfl (yl_load1 Try.ty3 rfl rfl (eC21 0 _ rfl) (sd rfl (yl_move rfl rfl (sd rfl (yl_neq rfl rfl rfl (SeqR.done (tn (bcase (decide (((p_a.getD k2 d_Op).Kind) = x3)) (fun hb22 => ?_) (fun hb22 => ?_)))))))))))))
   ·have hb22p := dec_t hb22
    refine CW.cond_f rfl (not_t hb22) (CW.skip (tn (CW.seq (CW.region (sd rfl (yl_move rfl rfl (sd rfl (yl_add rfl rfl rfl (sd rfl (yl_assign rfl rfl (SeqR.done ?_)))))))))))
    refine tn (CW.seq (CW.seq (CW.drawsI 8 (vgetI [DetI (.slice A1 p_a.length c1), DetI (.int .i64 ((k2 : Int))), DetI (.pointer (some ⟨eb21, eo21 + k2 * 4, none⟩)), DetI (.pointer (some ⟨eb21, eo21 + k2 * 4 + 1, none⟩)), DetI (.string (bs ((p_a.getD k2 d_Op).Key))), DetI (.int .i64 (IntKind.wrap .i64 (x3 + 1))), DetI (.string (bs ((l_markText (IntKind.wrap .i64 (x3 + 1)))))), DetI (.bool (!(((p_a.getD k2 d_Op).Key) == (l_markText (IntKind.wrap .i64 (x3 + 1))))))]) Try.follows rfl rfl rfl rfl rfl rfl (vgetI_stable ⟨StableI.det _, StableI.det _, StableI.det _, StableI.det _, StableI.det _, StableI.det _, StableI.det _, StableI.det _, trivial⟩) ⟨?_, ?_, ?_, ?_, ?_, ?_, ?_, ?_, trivial⟩ ?_)))
    ·exact fun _ _ h => os rfl ((yl_move rfl (h.old 0 _ rfl rfl) kI))
    ·exact fun _ _ h => os rfl ((yl_move rfl (h.old 5 _ rfl rfl) kI))
    ·intro L34 w35 hi36
     have hE37 := hi36.ex
     have hE37z := Ex.size hE37
     exact os rfl ((yl_indexAddrN Try.un60 Try.ty163 rfl (hi36.dt 0 21 rfl rfl rfl) (hi36.dt 1 22 rfl rfl rfl) eA21 (by first | omega | assumption | (simp only [IntKind.wrap_i64] at *; omega)) kI))
    ·exact fun _ _ h => os rfl ((yl_fieldAddr Try.fd163_1 rfl (h.dt 2 23 rfl rfl rfl) kI))
    ·exact fun _ _ h => os rfl ((yl_load1 Try.ty9 rfl (h.dt 3 24 rfl rfl rfl) ((Cells.ex eC21 h.ex) 1 _ rfl) kI))
    ·exact fun _ _ h => os rfl ((yl_move rfl (h.old 1 _ rfl rfl) kI))
    ·intro L56 w57 hi58
     have hE59 := hi58.ex
     have hE59z := Ex.size hE59
     refine OpR.op' rfl (yl_call Try.en95 rfl (opvs_cons (hi58.dt 5 26 rfl rfl rfl) opvs_nil) (Cal.mono (c_l_markText (IntKind.wrap .i64 (x3 + 1)) (by first | omega | assumption | (simp only [IntKind.wrap_i64] at *; omega))) ?_))
     rintro v62 w61 ⟨rfl, hE63⟩
     exact ⟨rfl, hE63⟩
    ·exact fun _ _ h => os rfl ((yl_sneq (a := ((p_a.getD k2 d_Op).Key)) (b := (l_markText (IntKind.wrap .i64 (x3 + 1)))) rfl (h.dt 4 25 rfl rfl rfl) (h.dt 6 27 rfl rfl rfl) kI))
    ·intro fl73 fh74 L70 w71 hp72
     have hE75 := hp72.ex
     have hE75z := Ex.size hE75
     refine SeqR.done (tn (CW.sub (Sub.cons (d := 0) (hp72.old 0 _ rfl rfl) (Sub.cons (d := 1) (hp72.old 1 _ rfl rfl) (Sub.cons (d := 5) (hp72.old 5 _ rfl rfl) (Sub.cons (d := 28) (hp72.nt 7 28 rfl rfl rfl) (Sub.nil _))))) (bcase (((p_a.getD k2 d_Op).Key) == (l_markText (IntKind.wrap .i64 (x3 + 1)))) (fun hb80 => ?_) (fun hb80 => ?_))))
     ·refine CW.cond_f rfl (not_t hb80) (CW.skip (tn (CW.seq (CW.region (sd rfl (yl_move rfl rfl (sd rfl (yl_add rfl rfl rfl (sd rfl (yl_assign rfl rfl (SeqR.done ?_)))))))))))
      refine tn (CW.seq (CW.seq ?_))
      have q81 := Cells.ex eC21 hE75
      refine CW.drawsI 8 (vgetI [DetI (.slice A1 p_a.length c1), DetI (.int .i64 ((k2 : Int))), DetI (.pointer (some ⟨eb21, eo21 + k2 * 4, none⟩)), DetI (.pointer (some ⟨eb21, eo21 + k2 * 4 + 2, none⟩)), DetI (.string (bs ((p_a.getD k2 d_Op).Val))), DetI (.int .i64 (IntKind.wrap .i64 ((IntKind.wrap .i64 (x3 + 1)) + 1))), DetI (.string (bs ((l_markText (IntKind.wrap .i64 ((IntKind.wrap .i64 (x3 + 1)) + 1)))))), DetI (.bool (!(((p_a.getD k2 d_Op).Val) == (l_markText (IntKind.wrap .i64 ((IntKind.wrap .i64 (x3 + 1)) + 1))))))]) Try.follows rfl rfl rfl rfl rfl rfl (vgetI_stable ⟨StableI.det _, StableI.det _, StableI.det _, StableI.det _, StableI.det _, StableI.det _, StableI.det _, StableI.det _, trivial⟩) ⟨?_, ?_, ?_, ?_, ?_, ?_, ?_, ?_, trivial⟩ ?_
      ·exact fun _ _ h => os rfl ((yl_move rfl (h.old 0 _ rfl rfl) kI))
      ·exact fun _ _ h => os rfl ((yl_move rfl (h.old 5 _ rfl rfl) kI))
      ·intro L93 w94 hi95
       have hE96 := hi95.ex
       have hE96z := Ex.size hE96
       exact os rfl ((yl_indexAddrN Try.un60 Try.ty163 rfl (hi95.dt 0 31 rfl rfl rfl) (hi95.dt 1 32 rfl rfl rfl) eA21 (by first | omega | assumption | (simp only [IntKind.wrap_i64] at *; omega)) kI))
      ·exact fun _ _ h => os rfl ((yl_fieldAddr Try.fd163_2 rfl (h.dt 2 33 rfl rfl rfl) kI))
      ·exact fun _ _ h => os rfl ((yl_load1 Try.ty9 rfl (h.dt 3 34 rfl rfl rfl) ((Cells.ex q81 h.ex) 2 _ rfl) kI))
      ·exact fun _ _ h => os rfl ((yl_move rfl (h.old 1 _ rfl rfl) kI))
      ·intro L115 w116 hi117
       have hE118 := hi117.ex
       have hE118z := Ex.size hE118
       refine OpR.op' rfl (yl_call Try.en95 rfl (opvs_cons (hi117.dt 5 36 rfl rfl rfl) opvs_nil) (Cal.mono (c_l_markText (IntKind.wrap .i64 ((IntKind.wrap .i64 (x3 + 1)) + 1)) (by first | omega | assumption | (simp only [IntKind.wrap_i64] at *; omega))) ?_))
       rintro v121 w120 ⟨rfl, hE122⟩
       exact ⟨rfl, hE122⟩
      ·exact fun _ _ h => os rfl ((yl_sneq (a := ((p_a.getD k2 d_Op).Val)) (b := (l_markText (IntKind.wrap .i64 ((IntKind.wrap .i64 (x3 + 1)) + 1)))) rfl (h.dt 4 35 rfl rfl rfl) (h.dt 6 37 rfl rfl rfl) kI))
      ·intro fl132 fh133 L129 w130 hp131
       have hE134 := hp131.ex
       have hE134z := Ex.size hE134
       refine SeqR.done (tn (CW.sub (Sub.cons (d := 0) (hp131.old 0 _ rfl rfl) (Sub.cons (d := 1) (hp131.old 1 _ rfl rfl) (Sub.cons (d := 5) (hp131.old 5 _ rfl rfl) (Sub.cons (d := 38) (hp131.nt 7 38 rfl rfl rfl) (Sub.nil _))))) (bcase (((p_a.getD k2 d_Op).Val) == (l_markText (IntKind.wrap .i64 ((IntKind.wrap .i64 (x3 + 1)) + 1)))) (fun hb139 => ?_) (fun hb139 => ?_))))
       ·refine CW.cond_f rfl (not_t hb139) (CW.skip (tn (CW.seq (CW.region (sd rfl (yl_move rfl rfl (sd rfl (yl_add rfl rfl rfl (sd rfl (yl_assign rfl rfl (SeqR.done ?_)))))))))))
        refine tn (CW.seq (CW.seq (CW.region (sd rfl (yl_move rfl rfl (sd rfl (yl_move rfl rfl (sd rfl (yl_indexAddrN Try.un60 Try.ty163 rfl rfl rfl eA21 (by first | omega | assumption | (simp only [IntKind.wrap_i64] at *; omega)) (sd rfl (yl_fieldAddr Try.fd163_3 rfl rfl (sd rfl (yl_load1 Try.ty3 rfl rfl ((Cells.ex q81 hE134) 3 _ rfl) ?_)))))))))))))
        refine sd rfl (yl_move rfl rfl (sd rfl (yl_neq rfl rfl rfl (SeqR.done (tn (bcase (decide (((p_a.getD k2 d_Op).By) = (IntKind.wrap .i64 ((IntKind.wrap .i64 ((IntKind.wrap .i64 (x3 + 1)) + 1)) + 1)))) (fun hb141 => ?_) (fun hb141 => ?_)))))))
        ·have hb141p := dec_t hb141
         refine CW.cond_f rfl (not_t hb141) (CW.skip (tn (CW.region (sd rfl (yl_move rfl rfl (sd rfl (yl_add rfl rfl rfl (sd rfl (yl_assign rfl rfl (SeqR.done (bn ?_)))))))))))
         refine tn (CW.region (sd rfl (yl_move rfl rfl (sd rfl (yl_inc rfl rfl rfl (by omega) (sd rfl (yl_assign rfl rfl (SeqR.done (tn ?_)))))))))
         have hB142 : B_l_heldOpS_0 p_a p_k k2 (x3) = .cont (IntKind.wrap .i64 ((IntKind.wrap .i64 ((IntKind.wrap .i64 ((IntKind.wrap .i64 (x3 + 1)) + 1)) + 1)) + 1)) := by simp only [B_l_heldOpS_0, hb22, hb80, hb139, hb141, cond_true, cond_false, loopE_done, loopE_ret]
         exact ⟨p_a.length - (k2 + 1), by omega, k2 + 1, IntKind.wrap .i64 ((IntKind.wrap .i64 ((IntKind.wrap .i64 ((IntKind.wrap .i64 (x3 + 1)) + 1)) + 1)) + 1), rfl, hlt20, (by omega), rfl, rfl, rfl, (RdS.ex good_Op (RdS.ex good_Op hf16 hE75) hE134), (Ex.trans (Ex.trans hf17 hE75) hE134), (by first | omega | assumption | (simp only [IntKind.wrap_i64] at *; omega)), (loopM.cont hlt20 hB142).symm.trans hI11⟩
        ·have hb141p := dec_f hb141
         refine CW.cond_t rfl (not_f hb141) (CW.seq (CW.region (sd rfl (yl_assign rfl rfl (SeqR.done (tn (CW.ret (tr (br ?_)))))))))
         refine tr (tr ?_)
         have hB148 : B_l_heldOpS_0 p_a p_k k2 (x3) = .ret (-1) := by simp only [B_l_heldOpS_0, hb22, hb80, hb139, hb141, cond_true, cond_false, loopE_done, loopE_ret]
         have hL147 : loopM (B_l_heldOpS_0 p_a p_k) (p_a.length - 0) 0 (p_k) = .ret (-1) := hI11.symm.trans (loopM.ret hlt20 hB148)
         refine br (tr (rr rfl (.cons rfl .nil) ?_))
         have hM149 : (l_heldOpS p_a p_k) = (-1) := by simp only [l_heldOpS, hb22, hb80, hb139, hb141, hL147, cond_true, cond_false, loopE_done, loopE_ret]
         rw [hM149]
         exact ⟨rfl, (Ex.trans (Ex.trans hf17 hE75) hE134)⟩
       ·refine CW.cond_t rfl (not_f hb139) (CW.seq (CW.region (sd rfl (yl_assign rfl rfl (SeqR.done (tn (CW.ret (tr (br ?_)))))))))
        refine tr (tr ?_)
        have hB153 : B_l_heldOpS_0 p_a p_k k2 (x3) = .ret (-1) := by simp only [B_l_heldOpS_0, hb22, hb80, hb139, cond_true, cond_false, loopE_done, loopE_ret]
        have hL152 : loopM (B_l_heldOpS_0 p_a p_k) (p_a.length - 0) 0 (p_k) = .ret (-1) := hI11.symm.trans (loopM.ret hlt20 hB153)
        refine br (tr (rr rfl (.cons rfl .nil) ?_))
        have hM154 : (l_heldOpS p_a p_k) = (-1) := by simp only [l_heldOpS, hb22, hb80, hb139, hL152, cond_true, cond_false, loopE_done, loopE_ret]
        rw [hM154]
        exact ⟨rfl, (Ex.trans (Ex.trans hf17 hE75) hE134)⟩
     ·refine CW.cond_t rfl (not_f hb80) (CW.seq (CW.region (sd rfl (yl_assign rfl rfl (SeqR.done (tn (CW.ret (tr (br ?_)))))))))
      refine tr (tr ?_)
      have hB158 : B_l_heldOpS_0 p_a p_k k2 (x3) = .ret (-1) := by simp only [B_l_heldOpS_0, hb22, hb80, cond_true, cond_false, loopE_done, loopE_ret]
      have hL157 : loopM (B_l_heldOpS_0 p_a p_k) (p_a.length - 0) 0 (p_k) = .ret (-1) := hI11.symm.trans (loopM.ret hlt20 hB158)
      refine br (tr (rr rfl (.cons rfl .nil) ?_))
      have hM159 : (l_heldOpS p_a p_k) = (-1) := by simp only [l_heldOpS, hb22, hb80, hL157, cond_true, cond_false, loopE_done, loopE_ret]
      rw [hM159]
      exact ⟨rfl, (Ex.trans hf17 hE75)⟩
   ·have hb22p := dec_f hb22
    refine CW.cond_t rfl (not_f hb22) (CW.seq (CW.region (sd rfl (yl_assign rfl rfl (SeqR.done (tn (CW.ret (tr (br ?_)))))))))
    refine tr (tr ?_)
    have hB162 : B_l_heldOpS_0 p_a p_k k2 (x3) = .ret (-1) := by simp only [B_l_heldOpS_0, hb22, cond_true, cond_false, loopE_done, loopE_ret]
    have hL161 : loopM (B_l_heldOpS_0 p_a p_k) (p_a.length - 0) 0 (p_k) = .ret (-1) := hI11.symm.trans (loopM.ret hlt20 hB162)
    refine br (tr (rr rfl (.cons rfl .nil) ?_))
    have hM163 : (l_heldOpS p_a p_k) = (-1) := by simp only [l_heldOpS, hb22, hL161, cond_true, cond_false, loopE_done, loopE_ret]
    rw [hM163]
    exact ⟨rfl, hf17⟩
  ·refine CW.seq (CW.seq (CW.region (sd rfl (yl_move rfl rfl (sd rfl (yl_move rfl rfl (sd rfl (yl_len Try.un60 rfl rfl (sd rfl (yl_lss rfl rfl rfl (SeqR.done (tn ?_))))))))))))
   refine CW.cond_f rfl (lt_f hlt20) (CW.exit (tx (tx ?_)))
   have hL164 : loopM (B_l_heldOpS_0 p_a p_k) (p_a.length - 0) 0 (p_k) = .done (x3) := hI11.symm.trans (loopM.stop hlt20)
   refine bx (tn (CW.seq (CW.region (sd rfl (yl_move rfl rfl (sd rfl (yl_assign rfl rfl (SeqR.done (tn (CW.ret ?_))))))))))
   refine rr rfl (.cons rfl .nil) ?_
   have hM165 : (l_heldOpS p_a p_k) = (x3) := by simp only [l_heldOpS, hL164, cond_true, cond_false, loopE_done, loopE_ret]
   rw [hM165]
   exact ⟨rfl, hf17⟩
set_option maxRecDepth 100000 in
set_option maxHeartbeats 2000000 in
theorem c_l_FnExactFillOps {A1 : Option Addr} {c1 : Nat} {A2 : Option Addr} {c2 : Nat} {A3 : Option Addr} {c3 : Nat} {w : World} (p_0 : DTable) (p_1 : Str) (p_2 : DRow) (h1 : RdS w (Iv 0 w.heap.size) (RF e_Str) 1 A1 p_0.Cols.length c1 p_0.Cols) (h2 : RdS w (Iv 0 w.heap.size) (RF e_Idx) 3 A2 p_0.Idxs.length c2 p_0.Idxs) (h3 : RdS w (Iv 0 w.heap.size) (RF e_Str) 1 A3 p_2.Vals.length c3 p_2.Vals) (pre0 : wf_Table p_0) (pre1 : wfS p_1) (pre2 : wf_Row p_2) : Cal Try.prog 7 #[.agg #[.string (bs (p_0.Name)), .slice A1 p_0.Cols.length c1, .slice A2 p_0.Idxs.length c2], .string (bs (p_1)), .agg #[.slice A3 p_2.Vals.length c3]] w fun v w' => v = .bool ((l_FnExactFillOps p_0 p_1 p_2)) ∧ Ex w w' := by
 refine Cal.of (vs := [.agg #[.string (bs (p_0.Name)), .slice A1 p_0.Cols.length c1, .slice A2 p_0.Idxs.length c2], .string (bs (p_1)), .agg #[.slice A3 p_2.Vals.length c3]]) Try.func7 rfl Try.ntmps7 rfl (CW.seq (CW.region (sd rfl (yl_box (cs := [.string (bs (p_0.Name)), .slice A1 p_0.Cols.length c1, .slice A2 p_0.Idxs.length c2]) rfl rfl rfl ?_))))
 intro b4 w5 hs6 hz7 hB8 hE9
 refine sd rfl (yl_box (cs := [.slice A3 p_2.Vals.length c3]) rfl rfl rfl ?_)
 intro b10 w11 hs12 hz13 hB14 hE15
 refine sd rfl (yl_assign rfl rfl (SeqR.done (tn (CW.seq (CW.seq (CW.region (sd rfl (yl_move rfl rfl (sd rfl (yl_slen Try.un9 (a := p_1) rfl rfl (sd rfl (yl_gtr rfl rfl rfl ?_))))))))))))
 refine SeqR.done (tn (bcase (decide (1048576 < (p_1.length : Int))) (fun hb16 => ?_) (fun hb16 => ?_)))
 ·have hb16p := dec_t hb16
  refine CW.cond_t rfl hb16 (CW.seq (CW.region (sd rfl (yl_assign rfl rfl (SeqR.done (tn (CW.ret (tr (rr rfl (.cons rfl .nil) ?_)))))))))
  have hM17 : (l_FnExactFillOps p_0 p_1 p_2) = (true) := by simp only [l_FnExactFillOps, hb16, cond_true, cond_false, loopE_done, loopE_ret]
  rw [hM17]
  exact ⟨rfl, (Ex.trans (Ex.trans (Ex.refl w) hE9) hE15)⟩
 ·have hb16p := dec_f hb16
  refine CW.cond_f rfl hb16 (CW.skip (tn (CW.seq (CW.region (sd rfl (yl_assign rfl rfl (SeqR.done (tn (CW.seq ?_)))))))))
  refine CW.region ?_
  have q20 := Box.ex hB8 hE15
  refine sd rfl (yl_loadN (cs := [.string (bs (p_0.Name)), .slice A1 p_0.Cols.length c1, .slice A2 p_0.Idxs.length c2]) Try.ty55 rfl rfl (q20.cells (n := 3) rfl) rfl (sd rfl (yl_move rfl rfl ?_)))
  have q22 := RdS.ex good_Str (RdS.ex good_Str h1 hE9) hE15
  have q24 := RdS.ex good_Idx (RdS.ex good_Idx h2 hE9) hE15
  refine sd rfl (yl_call Try.en32 rfl (opvs_cons rfl (opvs_cons rfl opvs_nil)) (Cal.mono (c_l_szTable p_0 1048576 (RdS.up q22 good_Str) (RdS.up q24 good_Idx)) ?_))
  rintro v26 w25 ⟨rfl, hE27⟩
  have hE27z := Ex.size hE27
  refine sd rfl (yl_assign rfl rfl (SeqR.done (tn (CW.seq (CW.seq (CW.region (sd rfl (yl_move rfl rfl (sd rfl (yl_lss rfl rfl rfl (SeqR.done ?_)))))))))))
  refine tn (bcase (decide ((l_szTable p_0 1048576) < 0)) (fun hb28 => ?_) (fun hb28 => ?_))
  ·have hb28p := dec_t hb28
   refine CW.cond_t rfl hb28 (CW.seq (CW.region (sd rfl (yl_assign rfl rfl (SeqR.done (tn (CW.ret (tr (rr rfl (.cons rfl .nil) ?_)))))))))
   have hM29 : (l_FnExactFillOps p_0 p_1 p_2) = (true) := by simp only [l_FnExactFillOps, hb16, hb28, cond_true, cond_false, loopE_done, loopE_ret]
   rw [hM29]
   exact ⟨rfl, (Ex.trans (Ex.trans (Ex.trans (Ex.refl w) hE9) hE15) hE27)⟩
  ·have hb28p := dec_f hb28
   refine CW.cond_f rfl hb28 (CW.skip (tn (CW.seq (CW.region ?_))))
   have q33 := Box.ex hB14 hE27
   refine sd rfl (yl_loadN (cs := [.slice A3 p_2.Vals.length c3]) Try.ty57 rfl rfl (q33.cells (n := 1) rfl) rfl (sd rfl (yl_move rfl rfl ?_)))
   have q36 := RdS.ex good_Str (RdS.ex good_Str (RdS.ex good_Str h3 hE9) hE15) hE27
   refine sd rfl (yl_call Try.en33 rfl (opvs_cons rfl (opvs_cons rfl opvs_nil)) (Cal.mono (c_l_szRow p_2 (l_szTable p_0 1048576) (RdS.up q36 good_Str)) ?_))
   rintro v38 w37 ⟨rfl, hE39⟩
   have hE39z := Ex.size hE39
   refine sd rfl (yl_assign rfl rfl (SeqR.done (tn (CW.seq (CW.seq (CW.region (sd rfl (yl_move rfl rfl (sd rfl (yl_lss rfl rfl rfl (SeqR.done ?_)))))))))))
   refine tn (bcase (decide ((l_szRow p_2 (l_szTable p_0 1048576)) < 0)) (fun hb40 => ?_) (fun hb40 => ?_))
   ·have hb40p := dec_t hb40
    refine CW.cond_t rfl hb40 (CW.seq (CW.region (sd rfl (yl_assign rfl rfl (SeqR.done (tn (CW.ret (tr (rr rfl (.cons rfl .nil) ?_)))))))))
    have hM41 : (l_FnExactFillOps p_0 p_1 p_2) = (true) := by simp only [l_FnExactFillOps, hb16, hb28, hb40, cond_true, cond_false, loopE_done, loopE_ret]
    rw [hM41]
    exact ⟨rfl, (Ex.trans (Ex.trans (Ex.trans (Ex.trans (Ex.refl w) hE9) hE15) hE27) hE39)⟩
   ·have hb40p := dec_f hb40
    refine CW.cond_f rfl hb40 (CW.skip (tn (CW.seq ?_)))
    have q47 := Box.ex (Box.ex q20 hE27) hE39
    have q49 := RdS.ex good_Str (RdS.ex good_Str q22 hE27) hE39
    have q51 := RdS.ex good_Idx (RdS.ex good_Idx q24 hE27) hE39
    have q55 := Box.ex q33 hE39
    have q56 := RdS.ex good_Str q36 hE39
    refine CW.drawsI 11 (vgetI [DetI (.agg #[.string (bs (p_0.Name)), .slice A1 p_0.Cols.length c1, .slice A2 p_0.Idxs.length c2]), fun lo hi v wq => ∃ A53 c53 lo53 hi53 A54 c54 lo54 hi54, v = .agg #[.string (bs (p_0.Name)), .slice A53 p_0.Cols.length c53, .slice A54 p_0.Idxs.length c54] ∧ OwnL wq lo53 hi53 9 1 (RF e_Str) A53 p_0.Cols.length c53 p_0.Cols ∧ OwnL wq lo54 hi54 152 3 (RF e_Idx) A54 p_0.Idxs.length c54 p_0.Idxs ∧ (lo ≤ lo53 ∧ lo53 ≤ hi53 ∧ hi53 ≤ hi) ∧ (lo ≤ lo54 ∧ lo54 ≤ hi54 ∧ hi54 ≤ hi) ∧ (hi53 ≤ lo54 ∨ hi54 ≤ lo53), DetI (.string (bs (p_1))), DetI (.agg #[.slice A3 p_2.Vals.length c3]), fun lo hi v wq => ∃ A58 c58 lo58 hi58, v = .agg #[.slice A58 p_2.Vals.length c58] ∧ OwnL wq lo58 hi58 9 1 (RF e_Str) A58 p_2.Vals.length c58 p_2.Vals ∧ (lo ≤ lo58 ∧ lo58 ≤ hi58 ∧ hi58 ≤ hi), fun lo hi v wq => ∃ A60 c60 lo60 hi60, v = .tuple #[.slice A60 (((s_FillOps p_0 p_1 p_2).1).length) c60, .bool ((s_FillOps p_0 p_1 p_2).2)] ∧ OwnL wq lo60 hi60 163 4 (RF e_Op) A60 (((s_FillOps p_0 p_1 p_2).1).length) c60 ((s_FillOps p_0 p_1 p_2).1) ∧ (lo ≤ lo60 ∧ lo60 ≤ hi60 ∧ hi60 ≤ hi), fun lo hi v wq => ∃ A60 c60, v = .tuple #[.slice A60 (((s_FillOps p_0 p_1 p_2).1).length) c60, .bool ((s_FillOps p_0 p_1 p_2).2)] ∧ RdS wq (Ge w37.heap.size) (RF e_Op) 4 A60 ((s_FillOps p_0 p_1 p_2).1).length c60 ((s_FillOps p_0 p_1 p_2).1), fun lo hi v wq => ∃ A60 c60, v = .slice A60 (((s_FillOps p_0 p_1 p_2).1).length) c60 ∧ RdS wq (Ge w37.heap.size) (RF e_Op) 4 A60 ((s_FillOps p_0 p_1 p_2).1).length c60 ((s_FillOps p_0 p_1 p_2).1), DetI (.bool ((s_FillOps p_0 p_1 p_2).2)), fun lo hi v wq => ∃ A60 c60, v = .slice A60 (((s_FillOps p_0 p_1 p_2).1).length) c60 ∧ RdS wq (Ge w37.heap.size) (RF e_Op) 4 A60 ((s_FillOps p_0 p_1 p_2).1).length c60 ((s_FillOps p_0 p_1 p_2).1), DetI (.bool ((s_FillOps p_0 p_1 p_2).2))]) Try.follows rfl rfl rfl rfl rfl rfl (vgetI_stable ⟨StableI.det _, (fun _ _ _ _ _ ⟨A53, c53, lo53, hi53, A54, c54, lo54, hi54, hv, h53, h54, hr0, hr1, hr2⟩ e => ⟨A53, c53, lo53, hi53, A54, c54, lo54, hi54, hv, OwnL.ex good_Str h53 e, OwnL.ex good_Idx h54 e, hr0, hr1, hr2⟩), StableI.det _, StableI.det _, (fun _ _ _ _ _ ⟨A58, c58, lo58, hi58, hv, h58, hr0⟩ e => ⟨A58, c58, lo58, hi58, hv, OwnL.ex good_Str h58 e, hr0⟩), (fun _ _ _ _ _ ⟨A60, c60, lo60, hi60, hv, h60, hr0⟩ e => ⟨A60, c60, lo60, hi60, hv, OwnL.ex good_Op h60 e, hr0⟩), (fun _ _ _ _ _ ⟨A60, c60, hv, h61⟩ e => ⟨A60, c60, hv, RdS.ex good_Op h61 e⟩), (fun _ _ _ _ _ ⟨A60, c60, hv, h62⟩ e => ⟨A60, c60, hv, RdS.ex good_Op h62 e⟩), StableI.det _, (fun _ _ _ _ _ ⟨A60, c60, hv, h63⟩ e => ⟨A60, c60, hv, RdS.ex good_Op h63 e⟩), StableI.det _, trivial⟩) ⟨?_, ?_, ?_, ?_, ?_, ?_, ?_, ?_, ?_, ?_, ?_, trivial⟩ ?_
    ·exact fun _ _ h => os rfl ((yl_loadN (cs := [.string (bs (p_0.Name)), .slice A1 p_0.Cols.length c1, .slice A2 p_0.Idxs.length c2]) Try.ty55 rfl (h.old 3 _ rfl rfl) ((Box.ex q47 h.ex).cells (n := 3) rfl) rfl kI))
    ·intro L70 w71 hi72
     have hE73 := hi72.ex
     refine OpR.op' rfl (yl_call Try.en35 rfl (opvs_cons (hi72.dt 0 33 rfl rfl rfl) opvs_nil) (Cal.mono (c_l_toTable p_0 (RdS.up (RdS.ex good_Str q49 hE73) good_Str) (RdS.up (RdS.ex good_Idx q51 hE73) good_Idx) ((szok_Table pre0 (by decide) (dec_f hb28)).1)) ?_))
     rintro v80 w77 ⟨A78, c78, lo78, hi78, A79, c79, lo79, hi79, rfl, h78, h79, hrn82, hrn83, hrn84, hE81⟩
     exact ⟨⟨A78, c78, lo78, hi78, A79, c79, lo79, hi79, rfl, h78, h79, hrn82, hrn83, hrn84⟩, hE81⟩
    ·exact fun _ _ h => os rfl ((yl_move rfl (h.old 1 _ rfl rfl) kI))
    ·exact fun _ _ h => os rfl ((yl_loadN (cs := [.slice A3 p_2.Vals.length c3]) Try.ty57 rfl (h.old 5 _ rfl rfl) ((Box.ex q55 h.ex).cells (n := 1) rfl) rfl kI))
    ·intro L96 w97 hi98
     have hE99 := hi98.ex
     refine OpR.op' rfl (yl_call Try.en36 rfl (opvs_cons (hi98.dt 3 36 rfl rfl rfl) opvs_nil) (Cal.mono (c_l_toRow p_2 (RdS.up (RdS.ex good_Str q56 hE99) good_Str) ((szok_Row pre2 (szok_Table pre0 (by decide) (dec_f hb28)).2 (dec_f hb40)).1)) ?_))
     rintro v104 w102 ⟨A103, c103, lo103, hi103, rfl, h103, hrn106, hE105⟩
     exact ⟨⟨A103, c103, lo103, hi103, rfl, h103, hrn106⟩, hE105⟩
    ·intro L107 w108 hi109
     have hE110 := hi109.ex
     have hE110z := Ex.size hE110
     obtain ⟨lo112, hh113, _, hx111, hr114, hr115, hr116, A53_117, c53_118, lo53_119, hi53_120, A54_121, c54_122, lo54_123, hi54_124, rfl, h125, h126, hrn127, hrn128, hrn129⟩ := hi109.dep 1 34 rfl rfl
     obtain ⟨lo132, hh133, _, hx131, hr134, hr135, hr136, A58_137, c58_138, lo58_139, hi58_140, rfl, h141, hrn142⟩ := hi109.dep 4 37 rfl rfl
     refine OpR.op' rfl (yl_call Try.en34 rfl (opvs_cons hx111 (opvs_cons (hi109.dt 2 35 rfl rfl rfl) (opvs_cons hx131 opvs_nil))) (Cal.mono (c_s_FillOps p_0 p_1 p_2 (RdS.up (OwnL.rd good_Str h125) good_Str) (RdS.up (OwnL.rd good_Idx h126) good_Idx) (RdS.up (OwnL.rd good_Str h141) good_Str) ((szok_Table pre0 (by decide) (dec_f hb28)).1) (by unfold okS; omega) ((szok_Row pre2 (szok_Table pre0 (by decide) (dec_f hb28)).2 (dec_f hb40)).1)) ?_))
     rintro v148 w146 ⟨A147, c147, lo147, hi147, rfl, h147, hrn150, hE149⟩
     exact ⟨⟨A147, c147, lo147, hi147, rfl, h147, hrn150⟩, hE149⟩
    ·intro L151 w152 hi153
     have hE154 := hi153.ex
     have hE154z := Ex.size hE154
     obtain ⟨lo156, hh157, _, hx155, hr158, hr159, hr160, A60_161, c60_162, lo60_163, hi60_164, rfl, h165, hrn166⟩ := hi153.dep 5 38 rfl rfl
     exact os rfl ((yl_move rfl hx155 ⟨fun _ _ => ⟨A60_161, c60_162, rfl, (RdS.ivG good_Op (OwnL.rd good_Op h165) (by omega))⟩, rfl⟩))
    ·intro L167 w168 hi169
     obtain ⟨lo172, hh173, _, hx171, hr174, hr175, hr176, A60_177, c60_178, rfl, h179⟩ := hi169.dep 6 32 rfl rfl
     exact os rfl ((yl_extract rfl hx171 rfl ⟨fun _ _ => ⟨A60_177, c60_178, rfl, h179⟩, rfl⟩))
    ·intro L180 w181 hi182
     obtain ⟨lo185, hh186, _, hx184, hr187, hr188, hr189, A60_190, c60_191, rfl, h192⟩ := hi182.dep 6 32 rfl rfl
     exact os rfl ((yl_extract rfl hx184 rfl kI))
    ·intro L193 w194 hi195
     obtain ⟨lo198, hh199, _, hx197, hr200, hr201, hr202, A60_203, c60_204, rfl, h205⟩ := hi195.dep 7 39 rfl rfl
     exact os rfl ((yl_assign rfl hx197 ⟨fun _ _ => ⟨A60_203, c60_204, rfl, h205⟩, rfl⟩))
    ·exact fun _ _ h => os rfl ((yl_assign rfl (h.dt 8 40 rfl rfl rfl) kI))
    ·intro fl214 fh215 L211 w212 hp213
     have hE216 := hp213.ex
     have hE216z := Ex.size hE216
     have hr221 := hp213.rng 1 rfl
     obtain ⟨_, hx220, A53_222, c53_223, lo53_224, hi53_225, A54_226, c54_227, lo54_228, hi54_229, rfl, h230, h231, hrn232, hrn233, hrn234⟩ := hp213.new 1 34 rfl rfl
     have hr236 := hp213.rng 4 rfl
     have hsp237 := hp213.sep 1 4 rfl rfl rfl
     obtain ⟨_, hx235, A58_238, c58_239, lo58_240, hi58_241, rfl, h242, hrn243⟩ := hp213.new 4 37 rfl rfl
     have hr245 := hp213.rng 5 rfl
     have hsp246 := hp213.sep 1 5 rfl rfl rfl
     have hsp247 := hp213.sep 4 5 rfl rfl rfl
     obtain ⟨_, hx244, A60_248, c60_249, lo60_250, hi60_251, rfl, h252, hrn253⟩ := hp213.new 5 38 rfl rfl
     obtain ⟨_, hx254, A60_255, c60_256, rfl, h257⟩ := hp213.new 9 8 rfl rfl
     have hq258 := RdS.wideG good_Op h257 (Nat.le_refl _)
     refine SeqR.done (tn (CW.sub (Sub.cons (d := 1) (hp213.old 1 _ rfl rfl) (Sub.cons (d := 3) (hp213.old 3 _ rfl rfl) (Sub.cons (d := 5) (hp213.old 5 _ rfl rfl) (Sub.cons (d := 8) hx254 (Sub.cons (d := 9) (hp213.nt 10 9 rfl rfl rfl) (Sub.nil _)))))) (CW.seq (CW.region ?_))))
     have q260 := Box.ex q47 hE216
     refine sd rfl (yl_loadN (cs := [.string (bs (p_0.Name)), .slice A1 p_0.Cols.length c1, .slice A2 p_0.Idxs.length c2]) Try.ty55 rfl rfl (q260.cells (n := 3) rfl) rfl ?_)
     have q261 := RdS.ex good_Str q49 hE216
     have q262 := RdS.ex good_Idx q51 hE216
     refine sd rfl (yl_call Try.en35 rfl (opvs_cons rfl opvs_nil) (Cal.mono (c_l_toTable p_0 (RdS.up q261 good_Str) (RdS.up q262 good_Idx) ((szok_Table pre0 (by decide) (dec_f hb28)).1)) ?_))
     rintro v266 w263 ⟨A264, c264, lo264, hi264, A265, c265, lo265, hi265, rfl, h264, h265, hrn268, hrn269, hrn270, hE267⟩
     have hE267z := Ex.size hE267
     refine sd rfl (yl_alloc Try.ty65 (cs := [.string (bs (([] : Str))), .slice none 0 0, .slice none 0 0]) rfl rfl ?_)
     intro b271 w272 hs273 hz274 hB275 hE276
     refine SeqR.u rfl rfl (yl_store (vs := [.string (bs (p_0.Name)), .slice A264 p_0.Cols.length c264, .slice A265 p_0.Idxs.length c265]) Try.ty65 rfl rfl rfl rfl rfl rfl hB275 (Nat.le_of_ble_eq_true rfl) ?_)
     intro w277 hB278 hO279
     have hB278 : Box w277 b271 65 [.string (bs (p_0.Name)), .slice A264 p_0.Cols.length c264, .slice A265 p_0.Idxs.length c265] := hB278
     have hO279z := hO279.size
     refine SeqR.done (tn (CW.seq (CW.region ?_)))
     have q283 := Box.only (Box.ex (Box.ex (Box.ex q55 hE216) hE267) hE276) hO279 (by omega)
     refine sd rfl (yl_loadN (cs := [.slice A3 p_2.Vals.length c3]) Try.ty57 rfl rfl (q283.cells (n := 1) rfl) rfl ?_)
     have q287 := RdS.only good_Str (RdS.ex good_Str (RdS.ex good_Str (RdS.ex good_Str q56 hE216) hE267) hE276) hO279 (by simp only [Iv]; omega)
     refine sd rfl (yl_call Try.en36 rfl (opvs_cons rfl opvs_nil) (Cal.mono (c_l_toRow p_2 (RdS.up q287 good_Str) ((szok_Row pre2 (szok_Table pre0 (by decide) (dec_f hb28)).2 (dec_f hb40)).1)) ?_))
     rintro v290 w288 ⟨A289, c289, lo289, hi289, rfl, h289, hrn292, hE291⟩
     have hE291z := Ex.size hE291
     refine sd rfl (yl_alloc Try.ty67 (cs := [.slice none 0 0]) rfl rfl ?_)
     intro b293 w294 hs295 hz296 hB297 hE298
     refine SeqR.u rfl rfl (yl_store (vs := [.slice A289 p_2.Vals.length c289]) Try.ty67 rfl rfl rfl rfl rfl rfl hB297 (Nat.le_of_ble_eq_true rfl) ?_)
     intro w299 hB300 hO301
     have hB300 : Box w299 b293 67 [.slice A289 p_2.Vals.length c289] := hB300
     have hO301z := hO301.size
     refine SeqR.done (tn (CW.seq (CW.region ?_)))
     have q304 := Box.only (Box.ex (Box.ex hB278 hE291) hE298) hO301 (by omega)
     refine sd rfl (yl_loadN (cs := [.string (bs (p_0.Name)), .slice A264 p_0.Cols.length c264, .slice A265 p_0.Idxs.length c265]) Try.ty65 rfl rfl (q304.cells (n := 3) rfl) rfl (sd rfl (yl_move rfl rfl (sd rfl (yl_loadN (cs := [.slice A289 p_2.Vals.length c289]) Try.ty67 rfl rfl (hB300.cells (n := 1) rfl) rfl ?_)))))
     have q310 := OwnL.only good_Str (OwnL.ex good_Str (OwnL.ex good_Str (OwnL.only good_Str (OwnL.ex good_Str h264 hE276) hO279 (by omega)) hE291) hE298) hO301 (by omega)
     have q316 := OwnL.only good_Idx (OwnL.ex good_Idx (OwnL.ex good_Idx (OwnL.only good_Idx (OwnL.ex good_Idx h265 hE276) hO279 (by omega)) hE291) hE298) hO301 (by omega)
     have q319 := OwnL.only good_Str (OwnL.ex good_Str h289 hE298) hO301 (by omega)
     refine sd rfl (yl_call Try.en37 rfl (opvs_cons rfl (opvs_cons rfl (opvs_cons rfl opvs_nil))) (Cal.mono (c_i_FillOps p_0 p_1 p_2 (RdS.up (OwnL.rd good_Str q310) good_Str) (RdS.up (OwnL.rd good_Idx q316) good_Idx) (RdS.up (OwnL.rd good_Str q319) good_Str) ((szok_Table pre0 (by decide) (dec_f hb28)).1) (by unfold okS; omega) ((szok_Row pre2 (szok_Table pre0 (by decide) (dec_f hb28)).2 (dec_f hb40)).1)) ?_))
     rintro v322 w320 ⟨A321, c321, lo321, hi321, rfl, h321, hrn324, hE323⟩
     have hE323z := Ex.size hE323
     refine sd rfl (yl_move rfl rfl (sd rfl (yl_extract rfl rfl rfl (sd rfl (yl_extract rfl rfl rfl (sd rfl (yl_assign rfl rfl (sd rfl (yl_assign rfl rfl (SeqR.done (tn (CW.seq (CW.seq ?_)))))))))))))
     refine CW.region (sd rfl (yl_move rfl rfl (sd rfl (yl_move rfl rfl ?_))))
     have q332 := RdS.ex good_Op (RdS.only good_Op (RdS.ex good_Op (RdS.ex good_Op (RdS.only good_Op (RdS.ex good_Op (RdS.ex good_Op hq258 hE267) hE276) hO279 (by simp only [Iv]; omega)) hE291) hE298) hO301 (by simp only [Iv]; omega)) hE323
     refine sd rfl (yl_call Try.en38 rfl (opvs_cons rfl (opvs_cons rfl opvs_nil)) (Cal.mono (c_l_eqOpS ((i_FillOps p_0 p_1 p_2).1) ((s_FillOps p_0 p_1 p_2).1) (RdS.up (OwnL.rd good_Op h321) good_Op) (RdS.up q332 good_Op)) ?_))
     rintro v334 w333 ⟨rfl, hE335⟩
     have hE335z := Ex.size hE335
     refine sd rfl (yl_not rfl rfl (sd rfl (yl_move rfl rfl (bcase (l_eqOpS ((i_FillOps p_0 p_1 p_2).1) ((s_FillOps p_0 p_1 p_2).1)) (fun hb336 => ?_) (fun hb336 => ?_)))))
     ·refine sy rfl rfl (not_t hb336) (yl_move rfl rfl (sy rfl rfl (not_t hb336) (yl_move rfl rfl (sy rfl rfl (not_t hb336) (yl_bneq Try.un4 rfl rfl rfl (sd rfl (yl_pick_f rfl rfl (not_t hb336) rfl (SeqR.done (tn (bcase (((i_FillOps p_0 p_1 p_2).2) == ((s_FillOps p_0 p_1 p_2).2)) (fun hb337 => ?_) (fun hb337 => ?_)))))))))))
      ·refine CW.cond_f rfl (not_t hb337) (CW.skip (tn (CW.seq (CW.seq ?_))))
       have q339 := Box.ex (Box.ex q304 hE323) hE335
       have q347 := Box.ex (Box.ex (Box.only (Box.ex (Box.ex (Box.only (Box.ex (Box.ex q260 hE267) hE276) hO279 (by omega)) hE291) hE298) hO301 (by omega)) hE323) hE335
       have q355 := RdS.ex good_Str (RdS.ex good_Str (RdS.only good_Str (RdS.ex good_Str (RdS.ex good_Str (RdS.only good_Str (RdS.ex good_Str (RdS.ex good_Str q261 hE267) hE276) hO279 (by simp only [Iv]; omega)) hE291) hE298) hO301 (by simp only [Iv]; omega)) hE323) hE335
       have q363 := RdS.ex good_Idx (RdS.ex good_Idx (RdS.only good_Idx (RdS.ex good_Idx (RdS.ex good_Idx (RdS.only good_Idx (RdS.ex good_Idx (RdS.ex good_Idx q262 hE267) hE276) hO279 (by simp only [Iv]; omega)) hE291) hE298) hO301 (by simp only [Iv]; omega)) hE323) hE335
       have q369 := OwnL.ex good_Str (OwnL.ex good_Str q310 hE323) hE335
       have q372 := OwnL.ex good_Idx (OwnL.ex good_Idx q316 hE323) hE335
       refine CW.drawsI 5 (vgetI [DetI (.agg #[.string (bs (p_0.Name)), .slice A264 p_0.Cols.length c264, .slice A265 p_0.Idxs.length c265]), DetI (.agg #[.string (bs (p_0.Name)), .slice A1 p_0.Cols.length c1, .slice A2 p_0.Idxs.length c2]), fun lo hi v wq => ∃ A365 c365 lo365 hi365 A366 c366 lo366 hi366, v = .agg #[.string (bs (p_0.Name)), .slice A365 p_0.Cols.length c365, .slice A366 p_0.Idxs.length c366] ∧ OwnL wq lo365 hi365 9 1 (RF e_Str) A365 p_0.Cols.length c365 p_0.Cols ∧ OwnL wq lo366 hi366 152 3 (RF e_Idx) A366 p_0.Idxs.length c366 p_0.Idxs ∧ (lo ≤ lo365 ∧ lo365 ≤ hi365 ∧ hi365 ≤ hi) ∧ (lo ≤ lo366 ∧ lo366 ≤ hi366 ∧ hi366 ≤ hi) ∧ (hi365 ≤ lo366 ∨ hi366 ≤ lo365), DetI (.bool ((l_eqTable p_0 p_0))), DetI (.bool (!(l_eqTable p_0 p_0)))]) Try.follows rfl rfl rfl rfl rfl rfl (vgetI_stable ⟨StableI.det _, StableI.det _, (fun _ _ _ _ _ ⟨A365, c365, lo365, hi365, A366, c366, lo366, hi366, hv, h365, h366, hr0, hr1, hr2⟩ e => ⟨A365, c365, lo365, hi365, A366, c366, lo366, hi366, hv, OwnL.ex good_Str h365 e, OwnL.ex good_Idx h366 e, hr0, hr1, hr2⟩), StableI.det _, StableI.det _, trivial⟩) ⟨?_, ?_, ?_, ?_, ?_, trivial⟩ ?_
       ·exact fun _ _ h => os rfl ((yl_loadN (cs := [.string (bs (p_0.Name)), .slice A264 p_0.Cols.length c264, .slice A265 p_0.Idxs.length c265]) Try.ty65 rfl (h.old 10 _ rfl rfl) ((Box.ex q339 h.ex).cells (n := 3) rfl) rfl kI))
       ·exact fun _ _ h => os rfl ((yl_loadN (cs := [.string (bs (p_0.Name)), .slice A1 p_0.Cols.length c1, .slice A2 p_0.Idxs.length c2]) Try.ty55 rfl (h.old 3 _ rfl rfl) ((Box.ex q347 h.ex).cells (n := 3) rfl) rfl kI))
       ·intro L386 w387 hi388
        have hE389 := hi388.ex
        refine OpR.op' rfl (yl_call Try.en35 rfl (opvs_cons (hi388.dt 1 62 rfl rfl rfl) opvs_nil) (Cal.mono (c_l_toTable p_0 (RdS.up (RdS.ex good_Str q355 hE389) good_Str) (RdS.up (RdS.ex good_Idx q363 hE389) good_Idx) ((szok_Table pre0 (by decide) (dec_f hb28)).1)) ?_))
        rintro v396 w393 ⟨A394, c394, lo394, hi394, A395, c395, lo395, hi395, rfl, h394, h395, hrn398, hrn399, hrn400, hE397⟩
        exact ⟨⟨A394, c394, lo394, hi394, A395, c395, lo395, hi395, rfl, h394, h395, hrn398, hrn399, hrn400⟩, hE397⟩
       ·intro L401 w402 hi403
        have hE404 := hi403.ex
        obtain ⟨lo407, hh408, _, hx406, hr409, hr410, hr411, A365_412, c365_413, lo365_414, hi365_415, A366_416, c366_417, lo366_418, hi366_419, rfl, h420, h421, hrn422, hrn423, hrn424⟩ := hi403.dep 2 63 rfl rfl
        refine OpR.op' rfl (yl_call Try.en39 rfl (opvs_cons (hi403.dt 0 61 rfl rfl rfl) (opvs_cons hx406 opvs_nil)) (Cal.mono (c_l_eqTable p_0 p_0 (RdS.up (OwnL.rd good_Str (OwnL.ex good_Str q369 hE404)) good_Str) (RdS.up (OwnL.rd good_Idx (OwnL.ex good_Idx q372 hE404)) good_Idx) (RdS.up (OwnL.rd good_Str h420) good_Str) (RdS.up (OwnL.rd good_Idx h421) good_Idx)) ?_))
        rintro v432 w431 ⟨rfl, hE433⟩
        exact ⟨rfl, hE433⟩
       ·exact fun _ _ h => os rfl ((yl_not rfl (h.dt 3 64 rfl rfl rfl) kI))
       ·intro fl442 fh443 L439 w440 hp441
        have hE444 := hp441.ex
        have hE444z := Ex.size hE444
        have hr455 := hp441.rng 2 rfl
        obtain ⟨_, hx454, A365_456, c365_457, lo365_458, hi365_459, A366_460, c366_461, lo366_462, hi366_463, rfl, h464, h465, hrn466, hrn467, hrn468⟩ := hp441.new 2 63 rfl rfl
        refine SeqR.done (tn (CW.sub (Sub.cons (d := 1) (hp441.old 1 _ rfl rfl) (Sub.cons (d := 3) (hp441.old 3 _ rfl rfl) (Sub.cons (d := 5) (hp441.old 5 _ rfl rfl) (Sub.cons (d := 8) (hp441.old 8 _ rfl rfl) (Sub.cons (d := 9) (hp441.old 9 _ rfl rfl) (Sub.cons (d := 10) (hp441.old 10 _ rfl rfl) (Sub.cons (d := 11) (hp441.old 11 _ rfl rfl) (Sub.cons (d := 12) (hp441.old 12 _ rfl rfl) (Sub.cons (d := 13) (hp441.old 13 _ rfl rfl) (Sub.cons (d := 65) (hp441.nt 4 65 rfl rfl rfl) (Sub.nil _))))))))))) (bcase (l_eqTable p_0 p_0) (fun hb470 => ?_) (fun hb470 => ?_))))
        ·refine CW.cond_f rfl (not_t hb470) (CW.skip (tn (CW.seq (CW.seq ?_))))
         have q473 := Box.ex (Box.ex (Box.ex hB300 hE323) hE335) hE444
         have q479 := Box.ex (Box.ex (Box.ex (Box.only (Box.ex (Box.ex q283 hE291) hE298) hO301 (by omega)) hE323) hE335) hE444
         have q485 := RdS.ex good_Str (RdS.ex good_Str (RdS.ex good_Str (RdS.only good_Str (RdS.ex good_Str (RdS.ex good_Str q287 hE291) hE298) hO301 (by simp only [Iv]; omega)) hE323) hE335) hE444
         have q491 := OwnL.ex good_Str (OwnL.ex good_Str (OwnL.ex good_Str q319 hE323) hE335) hE444
         refine CW.drawsI 5 (vgetI [DetI (.agg #[.slice A289 p_2.Vals.length c289]), DetI (.agg #[.slice A3 p_2.Vals.length c3]), fun lo hi v wq => ∃ A487 c487 lo487 hi487, v = .agg #[.slice A487 p_2.Vals.length c487] ∧ OwnL wq lo487 hi487 9 1 (RF e_Str) A487 p_2.Vals.length c487 p_2.Vals ∧ (lo ≤ lo487 ∧ lo487 ≤ hi487 ∧ hi487 ≤ hi), DetI (.bool ((l_eqRow p_2 p_2))), DetI (.bool (!(l_eqRow p_2 p_2)))]) Try.follows rfl rfl rfl rfl rfl rfl (vgetI_stable ⟨StableI.det _, StableI.det _, (fun _ _ _ _ _ ⟨A487, c487, lo487, hi487, hv, h487, hr0⟩ e => ⟨A487, c487, lo487, hi487, hv, OwnL.ex good_Str h487 e, hr0⟩), StableI.det _, StableI.det _, trivial⟩) ⟨?_, ?_, ?_, ?_, ?_, trivial⟩ ?_
         ·exact fun _ _ h => os rfl ((yl_loadN (cs := [.slice A289 p_2.Vals.length c289]) Try.ty67 rfl (h.old 11 _ rfl rfl) ((Box.ex q473 h.ex).cells (n := 1) rfl) rfl kI))
         ·exact fun _ _ h => os rfl ((yl_loadN (cs := [.slice A3 p_2.Vals.length c3]) Try.ty57 rfl (h.old 5 _ rfl rfl) ((Box.ex q479 h.ex).cells (n := 1) rfl) rfl kI))
         ·intro L505 w506 hi507
          have hE508 := hi507.ex
          refine OpR.op' rfl (yl_call Try.en36 rfl (opvs_cons (hi507.dt 1 67 rfl rfl rfl) opvs_nil) (Cal.mono (c_l_toRow p_2 (RdS.up (RdS.ex good_Str q485 hE508) good_Str) ((szok_Row pre2 (szok_Table pre0 (by decide) (dec_f hb28)).2 (dec_f hb40)).1)) ?_))
          rintro v513 w511 ⟨A512, c512, lo512, hi512, rfl, h512, hrn515, hE514⟩
          exact ⟨⟨A512, c512, lo512, hi512, rfl, h512, hrn515⟩, hE514⟩
         ·intro L516 w517 hi518
          have hE519 := hi518.ex
          obtain ⟨lo522, hh523, _, hx521, hr524, hr525, hr526, A487_527, c487_528, lo487_529, hi487_530, rfl, h531, hrn532⟩ := hi518.dep 2 68 rfl rfl
          refine OpR.op' rfl (yl_call Try.en40 rfl (opvs_cons (hi518.dt 0 66 rfl rfl rfl) (opvs_cons hx521 opvs_nil)) (Cal.mono (c_l_eqRow p_2 p_2 (RdS.up (OwnL.rd good_Str (OwnL.ex good_Str q491 hE519)) good_Str) (RdS.up (OwnL.rd good_Str h531) good_Str)) ?_))
          rintro v537 w536 ⟨rfl, hE538⟩
          exact ⟨rfl, hE538⟩
         ·exact fun _ _ h => os rfl ((yl_not rfl (h.dt 3 69 rfl rfl rfl) kI))
         ·intro fl547 fh548 L544 w545 hp546
          have hE549 := hp546.ex
          have hE549z := Ex.size hE549
          have hr560 := hp546.rng 2 rfl
          obtain ⟨_, hx559, A487_561, c487_562, lo487_563, hi487_564, rfl, h565, hrn566⟩ := hp546.new 2 68 rfl rfl
          refine SeqR.done (tn (CW.sub (Sub.cons (d := 1) (hp546.old 1 _ rfl rfl) (Sub.cons (d := 3) (hp546.old 3 _ rfl rfl) (Sub.cons (d := 5) (hp546.old 5 _ rfl rfl) (Sub.cons (d := 8) (hp546.old 8 _ rfl rfl) (Sub.cons (d := 9) (hp546.old 9 _ rfl rfl) (Sub.cons (d := 10) (hp546.old 10 _ rfl rfl) (Sub.cons (d := 11) (hp546.old 11 _ rfl rfl) (Sub.cons (d := 12) (hp546.old 12 _ rfl rfl) (Sub.cons (d := 13) (hp546.old 13 _ rfl rfl) (Sub.cons (d := 70) (hp546.nt 4 70 rfl rfl rfl) (Sub.nil _))))))))))) (bcase (l_eqRow p_2 p_2) (fun hb568 => ?_) (fun hb568 => ?_))))
          ·refine CW.cond_f rfl (not_t hb568) (CW.skip (tn (CW.seq (CW.region (sd rfl (yl_assign rfl rfl (SeqR.done (tn (CW.seq ?_)))))))))
           refine CW.region (sd rfl (yl_loadN (cs := [.string (bs (p_0.Name)), .slice A264 p_0.Cols.length c264, .slice A265 p_0.Idxs.length c265]) Try.ty65 rfl rfl ((Box.ex (Box.ex q339 hE444) hE549).cells (n := 3) rfl) rfl (sd rfl (yl_move rfl rfl (sd rfl (yl_call Try.en41 rfl (opvs_cons rfl (opvs_cons rfl opvs_nil)) (Cal.mono (c_l_markTable p_0 1 (OwnL.ex good_Str (OwnL.ex good_Str q369 hE444) hE549) (OwnL.ex good_Idx (OwnL.ex good_Idx q372 hE444) hE549) (by omega) (by omega) (by omega) (by first | omega | assumption | (simp only [IntKind.wrap_i64] at *; omega))) ?_)))))))
           rintro v576 w575 ⟨rfl, h578, h579, hm577⟩
           have hm577z := Mut.size hm577
           have hrf580 := rf_markTable p_0 1 (by first | omega | assumption | (simp only [IntKind.wrap_i64] at *; omega))
           refine sd rfl (yl_assign rfl rfl (SeqR.done (tn (CW.seq (CW.region (sd rfl (yl_loadN (cs := [.slice A289 p_2.Vals.length c289]) Try.ty67 rfl rfl ((Box.mut (Box.ex q473 hE549) hm577 (fun k hk => by simp only [InR, or_false] at hk; omega)).cells (n := 1) rfl) rfl (sd rfl (yl_move rfl rfl (sd rfl (yl_call Try.en42 rfl (opvs_cons rfl (opvs_cons rfl opvs_nil)) (Cal.mono (c_l_markRow p_2 ((l_markTable p_0 1).1) (OwnL.mut good_Str (OwnL.ex good_Str q491 hE549) hm577 (fun k hk => by simp only [InR, or_false] at hk; omega)) (by omega) (by first | omega | assumption | (simp only [IntKind.wrap_i64] at *; omega))) ?_))))))))))))
           rintro v586 w585 ⟨rfl, h588, hm587⟩
           have hm587z := Mut.size hm587
           have hrf589 := rf_markRow p_2 ((l_markTable p_0 1).1) (by first | omega | assumption | (simp only [IntKind.wrap_i64] at *; omega))
           refine sd rfl (yl_assign rfl rfl (SeqR.done (tn (CW.seq (CW.seq (CW.region (sd rfl (yl_move rfl rfl (sd rfl (yl_lss rfl rfl rfl (sd rfl (yl_move rfl rfl ?_))))))))))))
           refine bcase (decide (((l_markRow p_2 ((l_markTable p_0 1).1)).1) < 0)) (fun hb590 => ?_) (fun hb590 => ?_)
           ·have hb590p := dec_t hb590
            refine sz rfl rfl hb590 (sz rfl rfl hb590 (sz rfl rfl hb590 (sz rfl rfl hb590 (sd rfl (yl_pick_t rfl rfl hb590 rfl (sd rfl (yl_move rfl rfl (sz rfl rfl rfl (sz rfl rfl rfl (sz rfl rfl rfl ?_))))))))))
            refine sd rfl (yl_pick_t rfl rfl rfl rfl (SeqR.done (tn (CW.cond_t rfl rfl (CW.seq (CW.region (sd rfl (yl_assign rfl rfl (SeqR.done (tn ?_))))))))))
            refine CW.ret (tr (rr rfl (.cons rfl .nil) ?_))
            have hM591 : (l_FnExactFillOps p_0 p_1 p_2) = (false) := by simp only [l_FnExactFillOps, hb16, hb28, hb40, hb336, hb337, hb470, hb568, hb590, cond_true, cond_false, loopE_done, loopE_ret]
            rw [hM591]
            have q608 := Ex.mut (Ex.mut (Ex.trans (Ex.trans (Ex.trans (Ex.trans (Below.only (Ex.trans (Ex.trans (Below.only (Ex.trans (Ex.trans (Ex.trans (Ex.trans (Ex.trans (Ex.trans (Ex.trans (Ex.refl w) hE9) hE15) hE27) hE39) hE216) hE267) hE276) hO279 (by omega)) hE291) hE298) hO301 (by omega)) hE323) hE335) hE444) hE549) hm577 (fun k hk => by simp only [InR, or_false] at hk; omega)) hm587 (fun k hk => by simp only [InR, or_false] at hk; omega)
            exact ⟨rfl, q608⟩
           ·have hb590p := dec_f hb590
            refine sy rfl rfl hb590 (yl_move rfl rfl (sy rfl rfl hb590 (yl_move rfl rfl ?_)))
            have q614 := OwnL.mut good_Op (OwnL.mut good_Op (OwnL.ex good_Op (OwnL.ex good_Op (OwnL.ex good_Op h321 hE335) hE444) hE549) hm577 (fun k hk => by simp only [InR, or_false] at hk; omega)) hm587 (fun k hk => by simp only [InR, or_false] at hk; omega)
            have q619 := RdS.mut good_Op (RdS.mut good_Op (RdS.ex good_Op (RdS.ex good_Op (RdS.ex good_Op q332 hE335) hE444) hE549) hm577 (fun k hk => by simp only [InR, or_false, Iv, Ge] at hk ⊢; omega)) hm587 (fun k hk => by simp only [InR, or_false, Iv, Ge] at hk ⊢; omega)
            refine sy rfl rfl hb590 (yl_call Try.en38 rfl (opvs_cons rfl (opvs_cons rfl opvs_nil)) (Cal.mono (c_l_eqOpS ((i_FillOps p_0 p_1 p_2).1) ((s_FillOps p_0 p_1 p_2).1) (RdS.up (OwnL.rd good_Op q614) good_Op) (RdS.up q619 good_Op)) ?_))
            rintro v621 w620 ⟨rfl, hE622⟩
            have hE622z := Ex.size hE622
            refine sy rfl rfl hb590 (yl_not rfl rfl (sd rfl (yl_pick_f rfl rfl hb590 rfl (sd rfl (yl_move rfl rfl (sy rfl rfl (not_t hb336) (yl_move rfl rfl (sy rfl rfl (not_t hb336) (yl_move rfl rfl (sy rfl rfl (not_t hb336) (yl_bneq Try.un4 rfl rfl rfl (sd rfl (yl_pick_f rfl rfl (not_t hb336) rfl (SeqR.done (tn ?_)))))))))))))))
            refine CW.cond_f rfl (not_t hb337) (CW.skip (tn (CW.seq (CW.region (sd rfl (yl_assign rfl rfl (SeqR.done (tn (CW.seq ?_)))))))))
            refine CW.region (sd rfl (yl_move rfl rfl (sd rfl (yl_move rfl rfl (sd rfl (yl_call Try.en43 rfl (opvs_cons rfl (opvs_cons rfl opvs_nil)) (Cal.mono (c_l_markOpS ((i_FillOps p_0 p_1 p_2).1) 1 (OwnL.ex good_Op q614 hE622) (by omega) (by first | omega | assumption | (simp only [IntKind.wrap_i64] at *; omega))) ?_)))))))
            rintro v625 w624 ⟨rfl, h627, hm626⟩
            have hm626z := Mut.size hm626
            have hrf628 := rf_markOpS ((i_FillOps p_0 p_1 p_2).1) 1 (by first | omega | assumption | (simp only [IntKind.wrap_i64] at *; omega))
            refine sd rfl (yl_assign rfl rfl (SeqR.done (tn (CW.seq (CW.region (sd rfl (yl_assign rfl rfl (SeqR.done (tn (CW.seq ?_))))))))))
            refine CW.region (sd rfl (yl_move rfl rfl (sd rfl (yl_move rfl rfl ?_))))
            have hle629 := OwnL.len h627
            refine sd rfl (yl_call Try.en44 rfl (opvs_cons rfl (opvs_cons rfl opvs_nil)) (Cal.mono (Cal.args (by rw [← hle629] <;> rfl) (c_l_heldOpS ((l_markOpS ((i_FillOps p_0 p_1 p_2).1) 1).2) 1 (RdS.fix (RdS.up (OwnL.rd good_Op h627) good_Op)) (by first | omega | assumption | (simp only [IntKind.wrap_i64] at *; omega)))) ?_))
            rintro v632 w631 ⟨rfl, hE633⟩
            have hE633z := Ex.size hE633
            have hrf634 := rf_heldOpS ((l_markOpS ((i_FillOps p_0 p_1 p_2).1) 1).2) 1 (by first | omega | assumption | (simp only [IntKind.wrap_i64] at *; omega))
            refine sd rfl (yl_assign rfl rfl (SeqR.done (tn (CW.seq (CW.seq (CW.region (sd rfl (yl_move rfl rfl (sd rfl (yl_lss rfl rfl rfl (SeqR.done ?_)))))))))))
            refine tn (bcase (decide ((l_heldOpS ((l_markOpS ((i_FillOps p_0 p_1 p_2).1) 1).2) 1) < 0)) (fun hb635 => ?_) (fun hb635 => ?_))
            ·have hb635p := dec_t hb635
             refine CW.cond_t rfl hb635 (CW.seq (CW.region (sd rfl (yl_assign rfl rfl (SeqR.done (tn (CW.ret (tr (rr rfl (.cons rfl .nil) ?_)))))))))
             have hM636 : (l_FnExactFillOps p_0 p_1 p_2) = (false) := by simp only [l_FnExactFillOps, hb16, hb28, hb40, hb336, hb337, hb470, hb568, hb590, hb635, cond_true, cond_false, loopE_done, loopE_ret]
             rw [hM636]
             have q653 := Ex.mut (Ex.mut (Ex.trans (Ex.trans (Ex.trans (Ex.trans (Below.only (Ex.trans (Ex.trans (Below.only (Ex.trans (Ex.trans (Ex.trans (Ex.trans (Ex.trans (Ex.trans (Ex.trans (Ex.refl w) hE9) hE15) hE27) hE39) hE216) hE267) hE276) hO279 (by omega)) hE291) hE298) hO301 (by omega)) hE323) hE335) hE444) hE549) hm577 (fun k hk => by simp only [InR, or_false] at hk; omega)) hm587 (fun k hk => by simp only [InR, or_false] at hk; omega)
             exact ⟨rfl, (Ex.trans (Ex.mut (Ex.trans q653 hE622) hm626 (fun k hk => by simp only [InR, or_false] at hk; omega)) hE633)⟩
            ·have hb635p := dec_f hb635
             refine CW.cond_f rfl hb635 (CW.skip (tn (CW.seq (CW.seq (CW.region (sd rfl (yl_move rfl rfl (sd rfl (yl_move rfl rfl (sd rfl (yl_neq rfl rfl rfl ?_)))))))))))
             refine SeqR.done (tn (bcase (decide ((l_heldOpS ((l_markOpS ((i_FillOps p_0 p_1 p_2).1) 1).2) 1) = ((l_markOpS ((i_FillOps p_0 p_1 p_2).1) 1).1))) (fun hb657 => ?_) (fun hb657 => ?_)))
             ·have hb657p := dec_t hb657
              refine CW.cond_f rfl (not_t hb657) (CW.skip (tn (CW.seq (CW.drawsI 11 (vgetI [DetI (.agg #[.string (bs (p_0.Name)), .slice A1 p_0.Cols.length c1, .slice A2 p_0.Idxs.length c2]), fun lo hi v wq => ∃ A680 c680 lo680 hi680 A681 c681 lo681 hi681, v = .agg #[.string (bs (p_0.Name)), .slice A680 p_0.Cols.length c680, .slice A681 p_0.Idxs.length c681] ∧ OwnL wq lo680 hi680 9 1 (RF e_Str) A680 p_0.Cols.length c680 p_0.Cols ∧ OwnL wq lo681 hi681 152 3 (RF e_Idx) A681 p_0.Idxs.length c681 p_0.Idxs ∧ (lo ≤ lo680 ∧ lo680 ≤ hi680 ∧ hi680 ≤ hi) ∧ (lo ≤ lo681 ∧ lo681 ≤ hi681 ∧ hi681 ≤ hi) ∧ (hi680 ≤ lo681 ∨ hi681 ≤ lo680), DetI (.string (bs (p_1))), DetI (.agg #[.slice A3 p_2.Vals.length c3]), fun lo hi v wq => ∃ A695 c695 lo695 hi695, v = .agg #[.slice A695 p_2.Vals.length c695] ∧ OwnL wq lo695 hi695 9 1 (RF e_Str) A695 p_2.Vals.length c695 p_2.Vals ∧ (lo ≤ lo695 ∧ lo695 ≤ hi695 ∧ hi695 ≤ hi), fun lo hi v wq => ∃ A697 c697 lo697 hi697, v = .tuple #[.slice A697 (((i_FillOps p_0 p_1 p_2).1).length) c697, .bool ((i_FillOps p_0 p_1 p_2).2)] ∧ OwnL wq lo697 hi697 163 4 (RF e_Op) A697 (((i_FillOps p_0 p_1 p_2).1).length) c697 ((i_FillOps p_0 p_1 p_2).1) ∧ (lo ≤ lo697 ∧ lo697 ≤ hi697 ∧ hi697 ≤ hi), fun lo hi v wq => ∃ A697 c697, v = .tuple #[.slice A697 (((i_FillOps p_0 p_1 p_2).1).length) c697, .bool ((i_FillOps p_0 p_1 p_2).2)] ∧ RdS wq (Ge w631.heap.size) (RF e_Op) 4 A697 ((i_FillOps p_0 p_1 p_2).1).length c697 ((i_FillOps p_0 p_1 p_2).1), fun lo hi v wq => ∃ A697 c697, v = .slice A697 (((i_FillOps p_0 p_1 p_2).1).length) c697 ∧ RdS wq (Ge w631.heap.size) (RF e_Op) 4 A697 ((i_FillOps p_0 p_1 p_2).1).length c697 ((i_FillOps p_0 p_1 p_2).1), DetI (.bool ((i_FillOps p_0 p_1 p_2).2)), fun lo hi v wq => ∃ A697 c697, v = .slice A697 (((i_FillOps p_0 p_1 p_2).1).length) c697 ∧ RdS wq (Ge w631.heap.size) (RF e_Op) 4 A697 ((i_FillOps p_0 p_1 p_2).1).length c697 ((i_FillOps p_0 p_1 p_2).1), DetI (.bool ((i_FillOps p_0 p_1 p_2).2))]) Try.follows rfl rfl rfl rfl rfl rfl (vgetI_stable ⟨StableI.det _, (fun _ _ _ _ _ ⟨A680, c680, lo680, hi680, A681, c681, lo681, hi681, hv, h680, h681, hr0, hr1, hr2⟩ e => ⟨A680, c680, lo680, hi680, A681, c681, lo681, hi681, hv, OwnL.ex good_Str h680 e, OwnL.ex good_Idx h681 e, hr0, hr1, hr2⟩), StableI.det _, StableI.det _, (fun _ _ _ _ _ ⟨A695, c695, lo695, hi695, hv, h695, hr0⟩ e => ⟨A695, c695, lo695, hi695, hv, OwnL.ex good_Str h695 e, hr0⟩), (fun _ _ _ _ _ ⟨A697, c697, lo697, hi697, hv, h697, hr0⟩ e => ⟨A697, c697, lo697, hi697, hv, OwnL.ex good_Op h697 e, hr0⟩), (fun _ _ _ _ _ ⟨A697, c697, hv, h698⟩ e => ⟨A697, c697, hv, RdS.ex good_Op h698 e⟩), (fun _ _ _ _ _ ⟨A697, c697, hv, h699⟩ e => ⟨A697, c697, hv, RdS.ex good_Op h699 e⟩), StableI.det _, (fun _ _ _ _ _ ⟨A697, c697, hv, h700⟩ e => ⟨A697, c697, hv, RdS.ex good_Op h700 e⟩), StableI.det _, trivial⟩) ⟨?_, ?_, ?_, ?_, ?_, ?_, ?_, ?_, ?_, ?_, ?_, trivial⟩ ?_))))
              ·intro L701 w702 hi703
               have hE704 := hi703.ex
               have hE704z := Ex.size hE704
               exact os rfl ((yl_loadN (cs := [.string (bs (p_0.Name)), .slice A1 p_0.Cols.length c1, .slice A2 p_0.Idxs.length c2]) Try.ty55 rfl (hi703.old 3 _ rfl rfl) ((Box.ex (Box.ex (Box.mut (Box.ex (Box.mut (Box.mut (Box.ex (Box.ex q347 hE444) hE549) hm577 (fun k hk => by simp only [InR, or_false] at hk; omega)) hm587 (fun k hk => by simp only [InR, or_false] at hk; omega)) hE622) hm626 (fun k hk => by simp only [InR, or_false] at hk; omega)) hE633) hE704).cells (n := 3) rfl) rfl kI))
              ·intro L707 w708 hi709
               have hE710 := hi709.ex
               have hE710z := Ex.size hE710
               refine OpR.op' rfl (yl_call Try.en35 rfl (opvs_cons (hi709.dt 0 102 rfl rfl rfl) opvs_nil) (Cal.mono (c_l_toTable p_0 (RdS.up (RdS.ex good_Str (RdS.ex good_Str (RdS.mut good_Str (RdS.ex good_Str (RdS.mut good_Str (RdS.mut good_Str (RdS.ex good_Str (RdS.ex good_Str q355 hE444) hE549) hm577 (fun k hk => by simp only [InR, or_false, Iv, Ge] at hk ⊢; omega)) hm587 (fun k hk => by simp only [InR, or_false, Iv, Ge] at hk ⊢; omega)) hE622) hm626 (fun k hk => by simp only [InR, or_false, Iv, Ge] at hk ⊢; omega)) hE633) hE710) good_Str) (RdS.up (RdS.ex good_Idx (RdS.ex good_Idx (RdS.mut good_Idx (RdS.ex good_Idx (RdS.mut good_Idx (RdS.mut good_Idx (RdS.ex good_Idx (RdS.ex good_Idx q363 hE444) hE549) hm577 (fun k hk => by simp only [InR, or_false, Iv, Ge] at hk ⊢; omega)) hm587 (fun k hk => by simp only [InR, or_false, Iv, Ge] at hk ⊢; omega)) hE622) hm626 (fun k hk => by simp only [InR, or_false, Iv, Ge] at hk ⊢; omega)) hE633) hE710) good_Idx) ((szok_Table pre0 (by decide) (dec_f hb28)).1)) ?_))
               rintro v717 w714 ⟨A715, c715, lo715, hi715, A716, c716, lo716, hi716, rfl, h715, h716, hrn719, hrn720, hrn721, hE718⟩
               exact ⟨⟨A715, c715, lo715, hi715, A716, c716, lo716, hi716, rfl, h715, h716, hrn719, hrn720, hrn721⟩, hE718⟩
              ·exact fun _ _ h => os rfl ((yl_move rfl (h.old 1 _ rfl rfl) kI))
              ·intro L727 w728 hi729
               have hE730 := hi729.ex
               have hE730z := Ex.size hE730
               exact os rfl ((yl_loadN (cs := [.slice A3 p_2.Vals.length c3]) Try.ty57 rfl (hi729.old 5 _ rfl rfl) ((Box.ex (Box.ex (Box.mut (Box.ex (Box.mut (Box.mut (Box.ex q479 hE549) hm577 (fun k hk => by simp only [InR, or_false] at hk; omega)) hm587 (fun k hk => by simp only [InR, or_false] at hk; omega)) hE622) hm626 (fun k hk => by simp only [InR, or_false] at hk; omega)) hE633) hE730).cells (n := 1) rfl) rfl kI))
              ·intro L733 w734 hi735
               have hE736 := hi735.ex
               have hE736z := Ex.size hE736
               refine OpR.op' rfl (yl_call Try.en36 rfl (opvs_cons (hi735.dt 3 105 rfl rfl rfl) opvs_nil) (Cal.mono (c_l_toRow p_2 (RdS.up (RdS.ex good_Str (RdS.ex good_Str (RdS.mut good_Str (RdS.ex good_Str (RdS.mut good_Str (RdS.mut good_Str (RdS.ex good_Str q485 hE549) hm577 (fun k hk => by simp only [InR, or_false, Iv, Ge] at hk ⊢; omega)) hm587 (fun k hk => by simp only [InR, or_false, Iv, Ge] at hk ⊢; omega)) hE622) hm626 (fun k hk => by simp only [InR, or_false, Iv, Ge] at hk ⊢; omega)) hE633) hE736) good_Str) ((szok_Row pre2 (szok_Table pre0 (by decide) (dec_f hb28)).2 (dec_f hb40)).1)) ?_))
               rintro v741 w739 ⟨A740, c740, lo740, hi740, rfl, h740, hrn743, hE742⟩
               exact ⟨⟨A740, c740, lo740, hi740, rfl, h740, hrn743⟩, hE742⟩
              ·intro L744 w745 hi746
               have hE747 := hi746.ex
               have hE747z := Ex.size hE747
               obtain ⟨lo749, hh750, _, hx748, hr751, hr752, hr753, A680_754, c680_755, lo680_756, hi680_757, A681_758, c681_759, lo681_760, hi681_761, rfl, h762, h763, hrn764, hrn765, hrn766⟩ := hi746.dep 1 103 rfl rfl
               obtain ⟨lo769, hh770, _, hx768, hr771, hr772, hr773, A695_774, c695_775, lo695_776, hi695_777, rfl, h778, hrn779⟩ := hi746.dep 4 106 rfl rfl
               refine OpR.op' rfl (yl_call Try.en37 rfl (opvs_cons hx748 (opvs_cons (hi746.dt 2 104 rfl rfl rfl) (opvs_cons hx768 opvs_nil))) (Cal.mono (c_i_FillOps p_0 p_1 p_2 (RdS.up (OwnL.rd good_Str h762) good_Str) (RdS.up (OwnL.rd good_Idx h763) good_Idx) (RdS.up (OwnL.rd good_Str h778) good_Str) ((szok_Table pre0 (by decide) (dec_f hb28)).1) (by unfold okS; omega) ((szok_Row pre2 (szok_Table pre0 (by decide) (dec_f hb28)).2 (dec_f hb40)).1)) ?_))
               rintro v785 w783 ⟨A784, c784, lo784, hi784, rfl, h784, hrn787, hE786⟩
               exact ⟨⟨A784, c784, lo784, hi784, rfl, h784, hrn787⟩, hE786⟩
              ·intro L788 w789 hi790
               have hE791 := hi790.ex
               have hE791z := Ex.size hE791
               obtain ⟨lo793, hh794, _, hx792, hr795, hr796, hr797, A697_798, c697_799, lo697_800, hi697_801, rfl, h802, hrn803⟩ := hi790.dep 5 107 rfl rfl
               exact os rfl ((yl_move rfl hx792 ⟨fun _ _ => ⟨A697_798, c697_799, rfl, (RdS.ivG good_Op (OwnL.rd good_Op h802) (by omega))⟩, rfl⟩))
              ·intro L804 w805 hi806
               obtain ⟨lo809, hh810, _, hx808, hr811, hr812, hr813, A697_814, c697_815, rfl, h816⟩ := hi806.dep 6 101 rfl rfl
               exact os rfl ((yl_extract rfl hx808 rfl ⟨fun _ _ => ⟨A697_814, c697_815, rfl, h816⟩, rfl⟩))
              ·intro L817 w818 hi819
               obtain ⟨lo822, hh823, _, hx821, hr824, hr825, hr826, A697_827, c697_828, rfl, h829⟩ := hi819.dep 6 101 rfl rfl
               exact os rfl ((yl_extract rfl hx821 rfl kI))
              ·intro L830 w831 hi832
               obtain ⟨lo835, hh836, _, hx834, hr837, hr838, hr839, A697_840, c697_841, rfl, h842⟩ := hi832.dep 7 108 rfl rfl
               exact os rfl ((yl_assign rfl hx834 ⟨fun _ _ => ⟨A697_840, c697_841, rfl, h842⟩, rfl⟩))
              ·exact fun _ _ h => os rfl ((yl_assign rfl (h.dt 8 109 rfl rfl rfl) kI))
              ·intro fl851 fh852 L848 w849 hp850
               have hE853 := hp850.ex
               have hE853z := Ex.size hE853
               have hr859 := hp850.rng 1 rfl
               obtain ⟨_, hx858, A680_860, c680_861, lo680_862, hi680_863, A681_864, c681_865, lo681_866, hi681_867, rfl, h868, h869, hrn870, hrn871, hrn872⟩ := hp850.new 1 103 rfl rfl
               have hr874 := hp850.rng 4 rfl
               have hsp875 := hp850.sep 1 4 rfl rfl rfl
               obtain ⟨_, hx873, A695_876, c695_877, lo695_878, hi695_879, rfl, h880, hrn881⟩ := hp850.new 4 106 rfl rfl
               have hr883 := hp850.rng 5 rfl
               have hsp884 := hp850.sep 1 5 rfl rfl rfl
               have hsp885 := hp850.sep 4 5 rfl rfl rfl
               obtain ⟨_, hx882, A697_886, c697_887, lo697_888, hi697_889, rfl, h890, hrn891⟩ := hp850.new 5 107 rfl rfl
               obtain ⟨_, hx892, A697_893, c697_894, rfl, h895⟩ := hp850.new 9 17 rfl rfl
               have hq896 := RdS.wideG good_Op h895 (Nat.le_refl _)
               refine SeqR.done (tn (CW.sub (Sub.cons (d := 8) (hp850.old 8 _ rfl rfl) (Sub.cons (d := 9) (hp850.old 9 _ rfl rfl) (Sub.cons (d := 12) (hp850.old 12 _ rfl rfl) (Sub.cons (d := 15) (hp850.old 15 _ rfl rfl) (Sub.cons (d := 17) hx892 (Sub.cons (d := 18) (hp850.nt 10 18 rfl rfl rfl) (Sub.nil _))))))) (CW.seq (CW.seq (CW.region (sd rfl (yl_move rfl rfl (sd rfl (yl_move rfl rfl (sd rfl (yl_call Try.en38 rfl (opvs_cons rfl (opvs_cons rfl opvs_nil)) (Cal.mono (c_l_eqOpS ((i_FillOps p_0 p_1 p_2).1) ((s_FillOps p_0 p_1 p_2).1) (RdS.up hq896 good_Op) (RdS.up (RdS.ex good_Op (RdS.ex good_Op (RdS.mut good_Op (RdS.ex good_Op q619 hE622) hm626 (fun k hk => by simp only [InR, or_false, Iv, Ge] at hk ⊢; omega)) hE633) hE853) good_Op)) ?_))))))))))))
               rintro v903 w902 ⟨rfl, hE904⟩
               have hE904z := Ex.size hE904
               refine sd rfl (yl_not rfl rfl (sd rfl (yl_move rfl rfl (sy rfl rfl (not_t hb336) (yl_move rfl rfl (sy rfl rfl (not_t hb336) (yl_move rfl rfl (sy rfl rfl (not_t hb336) (yl_bneq Try.un4 rfl rfl rfl (sd rfl (yl_pick_f rfl rfl (not_t hb336) rfl (SeqR.done (tn (CW.cond_f rfl (not_t hb337) ?_))))))))))))))
               refine CW.skip (tn (CW.seq (CW.region (sd rfl (yl_assign rfl rfl (SeqR.done (tn (CW.seq (CW.region ?_)))))))))
               refine sd rfl (yl_move rfl rfl (sd rfl (yl_move rfl rfl ?_)))
               have q908 := OwnL.ex good_Op (OwnL.ex good_Op (OwnL.ex good_Op h627 hE633) hE853) hE904
               have hle905 := OwnL.len q908
               refine sd rfl (yl_call Try.en44 rfl (opvs_cons rfl (opvs_cons rfl opvs_nil)) (Cal.mono (Cal.args (by rw [← hle905] <;> rfl) (c_l_heldOpS ((l_markOpS ((i_FillOps p_0 p_1 p_2).1) 1).2) 1 (RdS.fix (RdS.up (OwnL.rd good_Op q908) good_Op)) (by first | omega | assumption | (simp only [IntKind.wrap_i64] at *; omega)))) ?_))
               rintro v911 w910 ⟨rfl, hE912⟩
               have hE912z := Ex.size hE912
               have hrf913 := rf_heldOpS ((l_markOpS ((i_FillOps p_0 p_1 p_2).1) 1).2) 1 (by first | omega | assumption | (simp only [IntKind.wrap_i64] at *; omega))
               refine sd rfl (yl_assign rfl rfl (SeqR.done (tn (CW.seq (CW.seq (CW.region (sd rfl (yl_move rfl rfl (sd rfl (yl_lss rfl rfl rfl (SeqR.done ?_)))))))))))
               refine tn (CW.cond_f rfl hb635 (CW.skip (tn (CW.seq (CW.seq (CW.region (sd rfl (yl_move rfl rfl (sd rfl (yl_move rfl rfl ?_))))))))))
               refine sd rfl (yl_neq rfl rfl rfl (SeqR.done (tn (CW.cond_f rfl (not_t hb657) (CW.skip (tn (CW.seq (CW.region (sd rfl (yl_assign rfl rfl ?_))))))))))
               refine SeqR.done (tn (CW.ret (rr rfl (.cons rfl .nil) ?_)))
               have hM914 : (l_FnExactFillOps p_0 p_1 p_2) = (true) := by simp only [l_FnExactFillOps, hb16, hb28, hb40, hb336, hb337, hb470, hb568, hb590, hb635, hb657, cond_true, cond_false, loopE_done, loopE_ret]
               rw [hM914]
               have q931 := Ex.mut (Ex.mut (Ex.trans (Ex.trans (Ex.trans (Ex.trans (Below.only (Ex.trans (Ex.trans (Below.only (Ex.trans (Ex.trans (Ex.trans (Ex.trans (Ex.trans (Ex.trans (Ex.trans (Ex.refl w) hE9) hE15) hE27) hE39) hE216) hE267) hE276) hO279 (by omega)) hE291) hE298) hO301 (by omega)) hE323) hE335) hE444) hE549) hm577 (fun k hk => by simp only [InR, or_false] at hk; omega)) hm587 (fun k hk => by simp only [InR, or_false] at hk; omega)
               exact ⟨rfl, (Ex.trans (Ex.trans (Ex.trans (Ex.trans (Ex.mut (Ex.trans q931 hE622) hm626 (fun k hk => by simp only [InR, or_false] at hk; omega)) hE633) hE853) hE904) hE912)⟩
             ·have hb657p := dec_f hb657
              refine CW.cond_t rfl (not_f hb657) (CW.seq (CW.region (sd rfl (yl_assign rfl rfl (SeqR.done (tn (CW.ret (tr (rr rfl (.cons rfl .nil) ?_)))))))))
              have hM938 : (l_FnExactFillOps p_0 p_1 p_2) = (false) := by simp only [l_FnExactFillOps, hb16, hb28, hb40, hb336, hb337, hb470, hb568, hb590, hb635, hb657, cond_true, cond_false, loopE_done, loopE_ret]
              rw [hM938]
              have q955 := Ex.mut (Ex.mut (Ex.trans (Ex.trans (Ex.trans (Ex.trans (Below.only (Ex.trans (Ex.trans (Below.only (Ex.trans (Ex.trans (Ex.trans (Ex.trans (Ex.trans (Ex.trans (Ex.trans (Ex.refl w) hE9) hE15) hE27) hE39) hE216) hE267) hE276) hO279 (by omega)) hE291) hE298) hO301 (by omega)) hE323) hE335) hE444) hE549) hm577 (fun k hk => by simp only [InR, or_false] at hk; omega)) hm587 (fun k hk => by simp only [InR, or_false] at hk; omega)
              exact ⟨rfl, (Ex.trans (Ex.mut (Ex.trans q955 hE622) hm626 (fun k hk => by simp only [InR, or_false] at hk; omega)) hE633)⟩
          ·refine CW.cond_t rfl (not_f hb568) (CW.seq (CW.region (sd rfl (yl_assign rfl rfl (SeqR.done (tn (CW.ret (tr (rr rfl (.cons rfl .nil) ?_)))))))))
           have hM959 : (l_FnExactFillOps p_0 p_1 p_2) = (false) := by simp only [l_FnExactFillOps, hb16, hb28, hb40, hb336, hb337, hb470, hb568, cond_true, cond_false, loopE_done, loopE_ret]
           rw [hM959]
           exact ⟨rfl, (Ex.trans (Ex.trans (Ex.trans (Ex.trans (Below.only (Ex.trans (Ex.trans (Below.only (Ex.trans (Ex.trans (Ex.trans (Ex.trans (Ex.trans (Ex.trans (Ex.trans (Ex.refl w) hE9) hE15) hE27) hE39) hE216) hE267) hE276) hO279 (by omega)) hE291) hE298) hO301 (by omega)) hE323) hE335) hE444) hE549)⟩
        ·refine CW.cond_t rfl (not_f hb470) (CW.seq (CW.region (sd rfl (yl_assign rfl rfl (SeqR.done (tn (CW.ret (tr (rr rfl (.cons rfl .nil) ?_)))))))))
         have hM975 : (l_FnExactFillOps p_0 p_1 p_2) = (false) := by simp only [l_FnExactFillOps, hb16, hb28, hb40, hb336, hb337, hb470, cond_true, cond_false, loopE_done, loopE_ret]
         rw [hM975]
         exact ⟨rfl, (Ex.trans (Ex.trans (Ex.trans (Below.only (Ex.trans (Ex.trans (Below.only (Ex.trans (Ex.trans (Ex.trans (Ex.trans (Ex.trans (Ex.trans (Ex.trans (Ex.refl w) hE9) hE15) hE27) hE39) hE216) hE267) hE276) hO279 (by omega)) hE291) hE298) hO301 (by omega)) hE323) hE335) hE444)⟩
      ·refine CW.cond_t rfl (not_f hb337) (CW.seq (CW.region (sd rfl (yl_assign rfl rfl (SeqR.done (tn (CW.ret (tr (rr rfl (.cons rfl .nil) ?_)))))))))
       have hM990 : (l_FnExactFillOps p_0 p_1 p_2) = (false) := by simp only [l_FnExactFillOps, hb16, hb28, hb40, hb336, hb337, cond_true, cond_false, loopE_done, loopE_ret]
       rw [hM990]
       exact ⟨rfl, (Ex.trans (Ex.trans (Below.only (Ex.trans (Ex.trans (Below.only (Ex.trans (Ex.trans (Ex.trans (Ex.trans (Ex.trans (Ex.trans (Ex.trans (Ex.refl w) hE9) hE15) hE27) hE39) hE216) hE267) hE276) hO279 (by omega)) hE291) hE298) hO301 (by omega)) hE323) hE335)⟩
     ·refine sz rfl rfl (not_f hb336) (sz rfl rfl (not_f hb336) (sz rfl rfl (not_f hb336) (sd rfl (yl_pick_t rfl rfl (not_f hb336) rfl (SeqR.done (tn (CW.cond_t rfl rfl (CW.seq (CW.region ?_)))))))))
      refine sd rfl (yl_assign rfl rfl (SeqR.done (tn (CW.ret (tr (rr rfl (.cons rfl .nil) ?_))))))
      have hM1004 : (l_FnExactFillOps p_0 p_1 p_2) = (false) := by simp only [l_FnExactFillOps, hb16, hb28, hb40, hb336, cond_true, cond_false, loopE_done, loopE_ret]
      rw [hM1004]
      exact ⟨rfl, (Ex.trans (Ex.trans (Below.only (Ex.trans (Ex.trans (Below.only (Ex.trans (Ex.trans (Ex.trans (Ex.trans (Ex.trans (Ex.trans (Ex.trans (Ex.refl w) hE9) hE15) hE27) hE39) hE216) hE267) hE276) hO279 (by omega)) hE291) hE298) hO301 (by omega)) hE323) hE335)⟩
end Go.Proofs.Ytjeafbkejeallaa
