/- Idx Key: what each call returns, part 1. -/
import Derived.Test.YtmlfbjlkccnpmaaIdxKeyL
import Derived.Test.YtmlfbjlkccnpmaaIdxKeyF
set_option linter.unusedVariables false
set_option linter.unusedSimpArgs false
namespace Go.Proofs.Ytmlfbjlkccnpmaa
open Go.RowKit Go.X
set_option maxRecDepth 100000 in
set_option maxHeartbeats 2000000 in
theorem c_l_szStringS {A1 : Option Addr} {c1 : Nat} {w : World} (p_a : List Str) (p_left : Int) (h1 : RdS w (Iv 0 w.heap.size) (RF e_Str) 1 A1 p_a.length c1 p_a) : Cal Try.prog 66 #[.slice A1 p_a.length c1, .int .i64 (p_left)] w fun v w' => v = .int .i64 ((l_szStringS p_a p_left)) ∧ Ex w w' := by
  refine Cal.of (vs := [.slice A1 p_a.length c1, .int .i64 (p_left)]) Try.func66 rfl Try.ntmps66 rfl ?_
  refine CW.seq ?_
  refine CW.region ?_
  refine SeqR.d1 rfl rfl rfl (yl_assign rfl rfl ?_)
  refine SeqR.done ?_
  refine tn ?_
  refine CW.seq ?_
  refine CW.region ?_
  refine SeqR.d1 rfl rfl rfl (yl_move rfl rfl ?_)
  refine SeqR.d1 rfl rfl rfl (yl_move rfl rfl ?_)
  refine SeqR.d1 rfl rfl rfl (yl_len Try.un22 rfl rfl ?_)
  refine SeqR.d1 rfl rfl rfl (yl_sub rfl rfl rfl ?_)
  refine SeqR.d1 rfl rfl rfl (yl_assign rfl rfl ?_)
  refine SeqR.done ?_
  refine tn ?_
  refine CW.seq ?_
  refine CW.seq ?_
  refine CW.region ?_
  refine SeqR.d1 rfl rfl rfl (yl_move rfl rfl ?_)
  refine SeqR.d1 rfl rfl rfl (yl_lss rfl rfl rfl ?_)
  refine SeqR.done ?_
  refine tn ?_
  refine bcase (decide ((IntKind.wrap .i64 (p_left - (p_a.length : Int))) < 0)) (fun hb2 => ?_) (fun hb2 => ?_)
  · have hb2p := dec_t hb2
    refine CW.cond_t rfl hb2 ?_
    refine CW.seq ?_
    refine CW.region ?_
    refine SeqR.d1 rfl rfl rfl (yl_assign rfl rfl ?_)
    refine SeqR.done ?_
    refine tn ?_
    refine CW.ret ?_
    refine tr ?_
    refine rr rfl (.cons rfl .nil) ?_
    have hM3 : (l_szStringS p_a p_left) = (-1) := by simp only [l_szStringS, hb2, cond_true, cond_false, loopE_done, loopE_ret]
    rw [hM3]
    exact ⟨rfl, (Ex.refl w)⟩
  · have hb2p := dec_f hb2
    refine CW.cond_f rfl hb2 ?_
    refine CW.skip ?_
    refine tn ?_
    refine CW.seq ?_
    refine CW.seq ?_
    refine CW.region ?_
    refine SeqR.d1 rfl rfl rfl (yl_assign rfl rfl ?_)
    refine SeqR.done ?_
    refine tn ?_
    refine CW.block ?_
    refine CW.loop (fun m6 L7 w8 => ∃ (k4 : Nat) (x5 : Int), m6 = p_a.length - k4 ∧ k4 ≤ p_a.length ∧ w.heap.size ≤ w8.heap.size ∧ lkp L7 0 = some (.slice A1 p_a.length c1) ∧ lkp L7 1 = some (.int .i64 (x5)) ∧ lkp L7 5 = some (.int .i64 ((k4 : Int))) ∧ RdS w8 (Iv 0 w.heap.size) (RF e_Str) 1 A1 p_a.length c1 p_a ∧ Ex w w8 ∧ loopM (B_l_szStringS_0 p_a p_left) (p_a.length - k4) k4 (x5) = loopM (B_l_szStringS_0 p_a p_left) (p_a.length - 0) 0 (IntKind.wrap .i64 (p_left - (p_a.length : Int)))) (p_a.length - 0) ?_ ?_
    · exact ⟨0, IntKind.wrap .i64 (p_left - (p_a.length : Int)), rfl, (by omega), Nat.le_refl _, rfl, rfl, rfl, h1, (Ex.refl w), rfl⟩
    · rintro m9 L10 w11 ⟨k4, x5, rfl, hk12, hsz14, hl15, hl16, hl17, hf18, hf19, hI13⟩
      refine CW.sub (Sub.cons hl15 (Sub.cons hl16 (Sub.cons hl17 (Sub.nil _)))) ?_
      have hf19z := Ex.size hf19
      have hbg20 := RdS.big hf18
      rcases Nat.lt_or_ge k4 p_a.length with hlt21 | hlt21
      · skip
        refine CW.seq ?_
        refine CW.seq ?_
        refine CW.region ?_
        refine SeqR.d1 rfl rfl rfl (yl_move rfl rfl ?_)
        refine SeqR.d1 rfl rfl rfl (yl_move rfl rfl ?_)
        refine SeqR.d1 rfl rfl rfl (yl_len Try.un22 rfl rfl ?_)
        refine SeqR.d1 rfl rfl rfl (yl_lss rfl rfl rfl ?_)
        refine SeqR.done ?_
        refine tn ?_
        refine CW.cond_t rfl (lt_t hlt21) ?_
        refine CW.skip ?_
        refine tn ?_
        refine CW.seq ?_
        refine CW.block ?_
        refine CW.seq ?_
        refine CW.region ?_
        refine SeqR.d1 rfl rfl rfl (yl_move rfl rfl ?_)
        refine SeqR.d1 rfl rfl rfl (yl_move rfl rfl ?_)
        refine SeqR.d1 rfl rfl rfl (yl_move rfl rfl ?_)
        obtain ⟨eb22, eo22, ec22, eA22, eS22, ebl22, el22, eR22, eC22⟩ := RdS.atD hf18 d_Str (i := k4) (by first | omega | assumption)
        obtain rfl := eR22
        have eC22 : Cells w11 eb22 (eo22 + k4 * 1) [.string (bs ((p_a.getD k4 d_Str)))] := eC22
        refine SeqR.d1 rfl rfl rfl (yl_indexAddrN Try.un22 Try.ty9 rfl rfl rfl eA22 (by first | omega | assumption | (simp only [IntKind.wrap_i64] at *; omega)) ?_)
        refine SeqR.d1 rfl rfl rfl (yl_load1 Try.ty9 rfl rfl (eC22 0 _ rfl) ?_)
        refine SeqR.d1 rfl rfl rfl (yl_slen Try.un9 (a := (p_a.getD k4 d_Str)) rfl rfl ?_)
        refine SeqR.d1 rfl rfl rfl (yl_sub rfl rfl rfl ?_)
        refine SeqR.d1 rfl rfl rfl (yl_assign rfl rfl ?_)
        refine SeqR.done ?_
        refine tn ?_
        refine CW.seq ?_
        refine CW.region ?_
        refine SeqR.d1 rfl rfl rfl (yl_move rfl rfl ?_)
        refine SeqR.d1 rfl rfl rfl (yl_lss rfl rfl rfl ?_)
        refine SeqR.done ?_
        refine tn ?_
        refine bcase (decide ((IntKind.wrap .i64 (x5 - ((p_a.getD k4 d_Str).length : Int))) < 0)) (fun hb23 => ?_) (fun hb23 => ?_)
        · have hb23p := dec_t hb23
          refine CW.cond_t rfl hb23 ?_
          refine CW.seq ?_
          refine CW.region ?_
          refine SeqR.d1 rfl rfl rfl (yl_assign rfl rfl ?_)
          refine SeqR.done ?_
          refine tn ?_
          refine CW.ret ?_
          refine br ?_
          refine tr ?_
          refine tr ?_
          have hB25 : B_l_szStringS_0 p_a p_left k4 (x5) = .ret (-1) := by simp only [B_l_szStringS_0, hb2, hb23, cond_true, cond_false, loopE_done, loopE_ret]
          have hL24 : loopM (B_l_szStringS_0 p_a p_left) (p_a.length - 0) 0 (IntKind.wrap .i64 (p_left - (p_a.length : Int))) = .ret (-1) := hI13.symm.trans (loopM.ret hlt21 hB25)
          refine br ?_
          refine tr ?_
          refine rr rfl (.cons rfl .nil) ?_
          have hM26 : (l_szStringS p_a p_left) = (-1) := by simp only [l_szStringS, hb2, hb23, hL24, cond_true, cond_false, loopE_done, loopE_ret]
          rw [hM26]
          exact ⟨rfl, hf19⟩
        · have hb23p := dec_f hb23
          refine CW.cond_f rfl hb23 ?_
          refine CW.skip ?_
          refine bn ?_
          refine tn ?_
          refine CW.region ?_
          refine SeqR.d1 rfl rfl rfl (yl_move rfl rfl ?_)
          refine SeqR.d1 rfl rfl rfl (yl_inc rfl rfl rfl (by omega) ?_)
          refine SeqR.d1 rfl rfl rfl (yl_assign rfl rfl ?_)
          refine SeqR.done ?_
          refine tn ?_
          have hB27 : B_l_szStringS_0 p_a p_left k4 (x5) = .cont (IntKind.wrap .i64 (x5 - ((p_a.getD k4 d_Str).length : Int))) := by simp only [B_l_szStringS_0, hb2, hb23, cond_true, cond_false, loopE_done, loopE_ret]
          exact ⟨p_a.length - (k4 + 1), by omega, k4 + 1, IntKind.wrap .i64 (x5 - ((p_a.getD k4 d_Str).length : Int)), rfl, hlt21, (by omega), rfl, rfl, rfl, hf18, hf19, (loopM.cont hlt21 hB27).symm.trans hI13⟩
      · skip
        refine CW.seq ?_
        refine CW.seq ?_
        refine CW.region ?_
        refine SeqR.d1 rfl rfl rfl (yl_move rfl rfl ?_)
        refine SeqR.d1 rfl rfl rfl (yl_move rfl rfl ?_)
        refine SeqR.d1 rfl rfl rfl (yl_len Try.un22 rfl rfl ?_)
        refine SeqR.d1 rfl rfl rfl (yl_lss rfl rfl rfl ?_)
        refine SeqR.done ?_
        refine tn ?_
        refine CW.cond_f rfl (lt_f hlt21) ?_
        refine CW.exit ?_
        refine tx ?_
        refine tx ?_
        have hL28 : loopM (B_l_szStringS_0 p_a p_left) (p_a.length - 0) 0 (IntKind.wrap .i64 (p_left - (p_a.length : Int))) = .done (x5) := hI13.symm.trans (loopM.stop hlt21)
        refine bx ?_
        refine tn ?_
        refine CW.seq ?_
        refine CW.region ?_
        refine SeqR.d1 rfl rfl rfl (yl_move rfl rfl ?_)
        refine SeqR.d1 rfl rfl rfl (yl_assign rfl rfl ?_)
        refine SeqR.done ?_
        refine tn ?_
        refine CW.ret ?_
        refine rr rfl (.cons rfl .nil) ?_
        have hM29 : (l_szStringS p_a p_left) = (x5) := by simp only [l_szStringS, hb2, hL28, cond_true, cond_false, loopE_done, loopE_ret]
        rw [hM29]
        exact ⟨rfl, hf19⟩
set_option maxRecDepth 100000 in
set_option maxHeartbeats 2000000 in
theorem c_l_szIdx {w : World} (p_a : DIdx) (p_left : Int) : Cal Try.prog 138 #[.agg #[.string (bs (p_a.Name)), .int .i64 (p_a.Col), .int .i64 (p_a.Stage)], .int .i64 (p_left)] w fun v w' => v = .int .i64 ((l_szIdx p_a p_left)) ∧ Ex w w' := by
  refine Cal.of (vs := [.agg #[.string (bs (p_a.Name)), .int .i64 (p_a.Col), .int .i64 (p_a.Stage)], .int .i64 (p_left)]) Try.func138 rfl Try.ntmps138 rfl ?_
  refine CW.seq ?_
  refine CW.region ?_
  refine SeqR.d1 rfl rfl rfl (yl_box (cs := [.string (bs (p_a.Name)), .int .i64 (p_a.Col), .int .i64 (p_a.Stage)]) rfl rfl rfl ?_)
  intro b1 w2 hs3 hz4 hB5 hE6
  refine SeqR.d1 rfl rfl rfl (yl_assign rfl rfl ?_)
  refine SeqR.done ?_
  refine tn ?_
  refine CW.seq ?_
  refine CW.region ?_
  refine SeqR.d1 rfl rfl rfl (yl_move rfl rfl ?_)
  refine SeqR.d1 rfl rfl rfl (yl_fieldAddr Try.fd177_0 rfl rfl ?_)
  refine SeqR.d1 rfl rfl rfl (yl_load1 Try.ty9 rfl rfl ((hB5.cell 0).trans rfl) ?_)
  refine SeqR.d1 rfl rfl rfl (yl_slen Try.un9 (a := p_a.Name) rfl rfl ?_)
  refine SeqR.d1 rfl rfl rfl (yl_sub rfl rfl rfl ?_)
  refine SeqR.d1 rfl rfl rfl (yl_assign rfl rfl ?_)
  refine SeqR.done ?_
  refine tn ?_
  refine CW.seq ?_
  refine CW.seq ?_
  refine CW.region ?_
  refine SeqR.d1 rfl rfl rfl (yl_move rfl rfl ?_)
  refine SeqR.d1 rfl rfl rfl (yl_lss rfl rfl rfl ?_)
  refine SeqR.done ?_
  refine tn ?_
  refine bcase (decide ((IntKind.wrap .i64 (p_left - (p_a.Name.length : Int))) < 0)) (fun hb7 => ?_) (fun hb7 => ?_)
  · have hb7p := dec_t hb7
    refine CW.cond_t rfl hb7 ?_
    refine CW.seq ?_
    refine CW.region ?_
    refine SeqR.d1 rfl rfl rfl (yl_assign rfl rfl ?_)
    refine SeqR.done ?_
    refine tn ?_
    refine CW.ret ?_
    refine tr ?_
    refine rr rfl (.cons rfl .nil) ?_
    have hM8 : (l_szIdx p_a p_left) = (-1) := by simp only [l_szIdx, hb7, cond_true, cond_false, loopE_done, loopE_ret]
    rw [hM8]
    have q9 := Ex.trans (Ex.refl w) hE6
    exact ⟨rfl, q9⟩
  · have hb7p := dec_f hb7
    refine CW.cond_f rfl hb7 ?_
    refine CW.skip ?_
    refine tn ?_
    refine CW.seq ?_
    refine CW.region ?_
    refine SeqR.d1 rfl rfl rfl (yl_move rfl rfl ?_)
    refine SeqR.d1 rfl rfl rfl (yl_assign rfl rfl ?_)
    refine SeqR.done ?_
    refine tn ?_
    refine CW.ret ?_
    refine rr rfl (.cons rfl .nil) ?_
    have hM10 : (l_szIdx p_a p_left) = (IntKind.wrap .i64 (p_left - (p_a.Name.length : Int))) := by simp only [l_szIdx, hb7, cond_true, cond_false, loopE_done, loopE_ret]
    rw [hM10]
    have q11 := Ex.trans (Ex.refl w) hE6
    exact ⟨rfl, q11⟩
set_option maxRecDepth 100000 in
set_option maxHeartbeats 2000000 in
theorem c_l_szIdxS {A1 : Option Addr} {c1 : Nat} {w : World} (p_a : List DIdx) (p_left : Int) (h1 : RdS w (Iv 0 w.heap.size) (RF e_Idx) 3 A1 p_a.length c1 p_a) : Cal Try.prog 67 #[.slice A1 p_a.length c1, .int .i64 (p_left)] w fun v w' => v = .int .i64 ((l_szIdxS p_a p_left)) ∧ Ex w w' := by
  refine Cal.of (vs := [.slice A1 p_a.length c1, .int .i64 (p_left)]) Try.func67 rfl Try.ntmps67 rfl ?_
  refine CW.seq ?_
  refine CW.region ?_
  refine SeqR.d1 rfl rfl rfl (yl_assign rfl rfl ?_)
  refine SeqR.done ?_
  refine tn ?_
  refine CW.seq ?_
  refine CW.region ?_
  refine SeqR.d1 rfl rfl rfl (yl_move rfl rfl ?_)
  refine SeqR.d1 rfl rfl rfl (yl_move rfl rfl ?_)
  refine SeqR.d1 rfl rfl rfl (yl_len Try.un23 rfl rfl ?_)
  refine SeqR.d1 rfl rfl rfl (yl_sub rfl rfl rfl ?_)
  refine SeqR.d1 rfl rfl rfl (yl_assign rfl rfl ?_)
  refine SeqR.done ?_
  refine tn ?_
  refine CW.seq ?_
  refine CW.seq ?_
  refine CW.region ?_
  refine SeqR.d1 rfl rfl rfl (yl_move rfl rfl ?_)
  refine SeqR.d1 rfl rfl rfl (yl_lss rfl rfl rfl ?_)
  refine SeqR.done ?_
  refine tn ?_
  refine bcase (decide ((IntKind.wrap .i64 (p_left - (p_a.length : Int))) < 0)) (fun hb2 => ?_) (fun hb2 => ?_)
  · have hb2p := dec_t hb2
    refine CW.cond_t rfl hb2 ?_
    refine CW.seq ?_
    refine CW.region ?_
    refine SeqR.d1 rfl rfl rfl (yl_assign rfl rfl ?_)
    refine SeqR.done ?_
    refine tn ?_
    refine CW.ret ?_
    refine tr ?_
    refine rr rfl (.cons rfl .nil) ?_
    have hM3 : (l_szIdxS p_a p_left) = (-1) := by simp only [l_szIdxS, hb2, cond_true, cond_false, loopE_done, loopE_ret]
    rw [hM3]
    exact ⟨rfl, (Ex.refl w)⟩
  · have hb2p := dec_f hb2
    refine CW.cond_f rfl hb2 ?_
    refine CW.skip ?_
    refine tn ?_
    refine CW.seq ?_
    refine CW.seq ?_
    refine CW.region ?_
    refine SeqR.d1 rfl rfl rfl (yl_assign rfl rfl ?_)
    refine SeqR.done ?_
    refine tn ?_
    refine CW.block ?_
    refine CW.loop (fun m6 L7 w8 => ∃ (k4 : Nat) (x5 : Int), m6 = p_a.length - k4 ∧ k4 ≤ p_a.length ∧ w.heap.size ≤ w8.heap.size ∧ lkp L7 0 = some (.slice A1 p_a.length c1) ∧ lkp L7 1 = some (.int .i64 (x5)) ∧ lkp L7 5 = some (.int .i64 ((k4 : Int))) ∧ RdS w8 (Iv 0 w.heap.size) (RF e_Idx) 3 A1 p_a.length c1 p_a ∧ Ex w w8 ∧ loopM (B_l_szIdxS_0 p_a p_left) (p_a.length - k4) k4 (x5) = loopM (B_l_szIdxS_0 p_a p_left) (p_a.length - 0) 0 (IntKind.wrap .i64 (p_left - (p_a.length : Int)))) (p_a.length - 0) ?_ ?_
    · exact ⟨0, IntKind.wrap .i64 (p_left - (p_a.length : Int)), rfl, (by omega), Nat.le_refl _, rfl, rfl, rfl, h1, (Ex.refl w), rfl⟩
    · rintro m9 L10 w11 ⟨k4, x5, rfl, hk12, hsz14, hl15, hl16, hl17, hf18, hf19, hI13⟩
      refine CW.sub (Sub.cons hl15 (Sub.cons hl16 (Sub.cons hl17 (Sub.nil _)))) ?_
      have hf19z := Ex.size hf19
      have hbg20 := RdS.big hf18
      rcases Nat.lt_or_ge k4 p_a.length with hlt21 | hlt21
      · skip
        refine CW.seq ?_
        refine CW.seq ?_
        refine CW.region ?_
        refine SeqR.d1 rfl rfl rfl (yl_move rfl rfl ?_)
        refine SeqR.d1 rfl rfl rfl (yl_move rfl rfl ?_)
        refine SeqR.d1 rfl rfl rfl (yl_len Try.un23 rfl rfl ?_)
        refine SeqR.d1 rfl rfl rfl (yl_lss rfl rfl rfl ?_)
        refine SeqR.done ?_
        refine tn ?_
        refine CW.cond_t rfl (lt_t hlt21) ?_
        refine CW.skip ?_
        refine tn ?_
        refine CW.seq ?_
        refine CW.block ?_
        refine CW.seq ?_
        refine CW.region ?_
        refine SeqR.d1 rfl rfl rfl (yl_move rfl rfl ?_)
        refine SeqR.d1 rfl rfl rfl (yl_move rfl rfl ?_)
        obtain ⟨eb22, eo22, ec22, eA22, eS22, ebl22, el22, eR22, eC22⟩ := RdS.atD hf18 d_Idx (i := k4) (by first | omega | assumption)
        obtain rfl := eR22
        have eC22 : Cells w11 eb22 (eo22 + k4 * 3) [.string (bs ((p_a.getD k4 d_Idx).Name)), .int .i64 ((p_a.getD k4 d_Idx).Col), .int .i64 ((p_a.getD k4 d_Idx).Stage)] := eC22
        refine SeqR.d1 rfl rfl rfl (yl_indexAddrN Try.un23 Try.ty177 rfl rfl rfl eA22 (by first | omega | assumption | (simp only [IntKind.wrap_i64] at *; omega)) ?_)
        refine SeqR.d1 rfl rfl rfl (yl_loadN (cs := [.string (bs ((p_a.getD k4 d_Idx).Name)), .int .i64 ((p_a.getD k4 d_Idx).Col), .int .i64 ((p_a.getD k4 d_Idx).Stage)]) Try.ty177 rfl rfl eC22 rfl ?_)
        refine SeqR.d1 rfl rfl rfl (yl_move rfl rfl ?_)
        refine SeqR.d1 rfl rfl rfl (yl_call Try.en138 rfl (opvs_cons rfl (opvs_cons rfl opvs_nil)) (Cal.mono (c_l_szIdx (p_a.getD k4 d_Idx) x5) ?_))
        rintro v24 w23 ⟨rfl, hE25⟩
        have hE25z := Ex.size hE25
        refine SeqR.d1 rfl rfl rfl (yl_assign rfl rfl ?_)
        refine SeqR.done ?_
        refine tn ?_
        refine CW.seq ?_
        refine CW.region ?_
        refine SeqR.d1 rfl rfl rfl (yl_move rfl rfl ?_)
        refine SeqR.d1 rfl rfl rfl (yl_lss rfl rfl rfl ?_)
        refine SeqR.done ?_
        refine tn ?_
        refine bcase (decide ((l_szIdx (p_a.getD k4 d_Idx) x5) < 0)) (fun hb26 => ?_) (fun hb26 => ?_)
        · have hb26p := dec_t hb26
          refine CW.cond_t rfl hb26 ?_
          refine CW.seq ?_
          refine CW.region ?_
          refine SeqR.d1 rfl rfl rfl (yl_assign rfl rfl ?_)
          refine SeqR.done ?_
          refine tn ?_
          refine CW.ret ?_
          refine br ?_
          refine tr ?_
          refine tr ?_
          have hB28 : B_l_szIdxS_0 p_a p_left k4 (x5) = .ret (-1) := by simp only [B_l_szIdxS_0, hb2, hb26, cond_true, cond_false, loopE_done, loopE_ret]
          have hL27 : loopM (B_l_szIdxS_0 p_a p_left) (p_a.length - 0) 0 (IntKind.wrap .i64 (p_left - (p_a.length : Int))) = .ret (-1) := hI13.symm.trans (loopM.ret hlt21 hB28)
          refine br ?_
          refine tr ?_
          refine rr rfl (.cons rfl .nil) ?_
          have hM29 : (l_szIdxS p_a p_left) = (-1) := by simp only [l_szIdxS, hb2, hb26, hL27, cond_true, cond_false, loopE_done, loopE_ret]
          rw [hM29]
          have q30 := Ex.trans hf19 hE25
          exact ⟨rfl, q30⟩
        · have hb26p := dec_f hb26
          refine CW.cond_f rfl hb26 ?_
          refine CW.skip ?_
          refine bn ?_
          refine tn ?_
          refine CW.region ?_
          refine SeqR.d1 rfl rfl rfl (yl_move rfl rfl ?_)
          refine SeqR.d1 rfl rfl rfl (yl_inc rfl rfl rfl (by omega) ?_)
          refine SeqR.d1 rfl rfl rfl (yl_assign rfl rfl ?_)
          refine SeqR.done ?_
          refine tn ?_
          have hB31 : B_l_szIdxS_0 p_a p_left k4 (x5) = .cont ((l_szIdx (p_a.getD k4 d_Idx) x5)) := by simp only [B_l_szIdxS_0, hb2, hb26, cond_true, cond_false, loopE_done, loopE_ret]
          have q32 := RdS.ex good_Idx hf18 hE25
          have q33 := Ex.trans hf19 hE25
          exact ⟨p_a.length - (k4 + 1), by omega, k4 + 1, (l_szIdx (p_a.getD k4 d_Idx) x5), rfl, hlt21, (by omega), rfl, rfl, rfl, q32, q33, (loopM.cont hlt21 hB31).symm.trans hI13⟩
      · skip
        refine CW.seq ?_
        refine CW.seq ?_
        refine CW.region ?_
        refine SeqR.d1 rfl rfl rfl (yl_move rfl rfl ?_)
        refine SeqR.d1 rfl rfl rfl (yl_move rfl rfl ?_)
        refine SeqR.d1 rfl rfl rfl (yl_len Try.un23 rfl rfl ?_)
        refine SeqR.d1 rfl rfl rfl (yl_lss rfl rfl rfl ?_)
        refine SeqR.done ?_
        refine tn ?_
        refine CW.cond_f rfl (lt_f hlt21) ?_
        refine CW.exit ?_
        refine tx ?_
        refine tx ?_
        have hL34 : loopM (B_l_szIdxS_0 p_a p_left) (p_a.length - 0) 0 (IntKind.wrap .i64 (p_left - (p_a.length : Int))) = .done (x5) := hI13.symm.trans (loopM.stop hlt21)
        refine bx ?_
        refine tn ?_
        refine CW.seq ?_
        refine CW.region ?_
        refine SeqR.d1 rfl rfl rfl (yl_move rfl rfl ?_)
        refine SeqR.d1 rfl rfl rfl (yl_assign rfl rfl ?_)
        refine SeqR.done ?_
        refine tn ?_
        refine CW.ret ?_
        refine rr rfl (.cons rfl .nil) ?_
        have hM35 : (l_szIdxS p_a p_left) = (x5) := by simp only [l_szIdxS, hb2, hL34, cond_true, cond_false, loopE_done, loopE_ret]
        rw [hM35]
        exact ⟨rfl, hf19⟩
set_option maxRecDepth 100000 in
set_option maxHeartbeats 2000000 in
theorem c_l_szTable {A1 : Option Addr} {c1 : Nat} {A2 : Option Addr} {c2 : Nat} {w : World} (p_a : DTable) (p_left : Int) (h1 : RdS w (Iv 0 w.heap.size) (RF e_Str) 1 A1 p_a.Cols.length c1 p_a.Cols) (h2 : RdS w (Iv 0 w.heap.size) (RF e_Idx) 3 A2 p_a.Idxs.length c2 p_a.Idxs) : Cal Try.prog 14 #[.agg #[.string (bs (p_a.Name)), .slice A1 p_a.Cols.length c1, .slice A2 p_a.Idxs.length c2], .int .i64 (p_left)] w fun v w' => v = .int .i64 ((l_szTable p_a p_left)) ∧ Ex w w' := by
  refine Cal.of (vs := [.agg #[.string (bs (p_a.Name)), .slice A1 p_a.Cols.length c1, .slice A2 p_a.Idxs.length c2], .int .i64 (p_left)]) Try.func14 rfl Try.ntmps14 rfl ?_
  refine CW.seq ?_
  refine CW.region ?_
  refine SeqR.d1 rfl rfl rfl (yl_box (cs := [.string (bs (p_a.Name)), .slice A1 p_a.Cols.length c1, .slice A2 p_a.Idxs.length c2]) rfl rfl rfl ?_)
  intro b3 w4 hs5 hz6 hB7 hE8
  refine SeqR.d1 rfl rfl rfl (yl_assign rfl rfl ?_)
  refine SeqR.done ?_
  refine tn ?_
  refine CW.seq ?_
  refine CW.region ?_
  refine SeqR.d1 rfl rfl rfl (yl_move rfl rfl ?_)
  refine SeqR.d1 rfl rfl rfl (yl_fieldAddr Try.fd25_0 rfl rfl ?_)
  refine SeqR.d1 rfl rfl rfl (yl_load1 Try.ty9 rfl rfl ((hB7.cell 0).trans rfl) ?_)
  refine SeqR.d1 rfl rfl rfl (yl_slen Try.un9 (a := p_a.Name) rfl rfl ?_)
  refine SeqR.d1 rfl rfl rfl (yl_sub rfl rfl rfl ?_)
  refine SeqR.d1 rfl rfl rfl (yl_assign rfl rfl ?_)
  refine SeqR.done ?_
  refine tn ?_
  refine CW.seq ?_
  refine CW.seq ?_
  refine CW.region ?_
  refine SeqR.d1 rfl rfl rfl (yl_move rfl rfl ?_)
  refine SeqR.d1 rfl rfl rfl (yl_lss rfl rfl rfl ?_)
  refine SeqR.done ?_
  refine tn ?_
  refine bcase (decide ((IntKind.wrap .i64 (p_left - (p_a.Name.length : Int))) < 0)) (fun hb9 => ?_) (fun hb9 => ?_)
  · have hb9p := dec_t hb9
    refine CW.cond_t rfl hb9 ?_
    refine CW.seq ?_
    refine CW.region ?_
    refine SeqR.d1 rfl rfl rfl (yl_assign rfl rfl ?_)
    refine SeqR.done ?_
    refine tn ?_
    refine CW.ret ?_
    refine tr ?_
    refine rr rfl (.cons rfl .nil) ?_
    have hM10 : (l_szTable p_a p_left) = (-1) := by simp only [l_szTable, hb9, cond_true, cond_false, loopE_done, loopE_ret]
    rw [hM10]
    have q11 := Ex.trans (Ex.refl w) hE8
    exact ⟨rfl, q11⟩
  · have hb9p := dec_f hb9
    refine CW.cond_f rfl hb9 ?_
    refine CW.skip ?_
    refine tn ?_
    refine CW.seq ?_
    refine CW.region ?_
    refine SeqR.d1 rfl rfl rfl (yl_fieldAddr Try.fd25_1 rfl rfl ?_)
    refine SeqR.d1 rfl rfl rfl (yl_load1 Try.ty22 rfl rfl ((hB7.cell 1).trans rfl) ?_)
    refine SeqR.d1 rfl rfl rfl (yl_move rfl rfl ?_)
    have q12 := RdS.ex good_Str h1 hE8
    refine SeqR.d1 rfl rfl rfl (yl_call Try.en66 rfl (opvs_cons rfl (opvs_cons rfl opvs_nil)) (Cal.mono (c_l_szStringS p_a.Cols (IntKind.wrap .i64 (p_left - (p_a.Name.length : Int))) (RdS.up q12 good_Str)) ?_))
    rintro v14 w13 ⟨rfl, hE15⟩
    have hE15z := Ex.size hE15
    refine SeqR.d1 rfl rfl rfl (yl_assign rfl rfl ?_)
    refine SeqR.done ?_
    refine tn ?_
    refine CW.seq ?_
    refine CW.seq ?_
    refine CW.region ?_
    refine SeqR.d1 rfl rfl rfl (yl_move rfl rfl ?_)
    refine SeqR.d1 rfl rfl rfl (yl_lss rfl rfl rfl ?_)
    refine SeqR.done ?_
    refine tn ?_
    refine bcase (decide ((l_szStringS p_a.Cols (IntKind.wrap .i64 (p_left - (p_a.Name.length : Int)))) < 0)) (fun hb16 => ?_) (fun hb16 => ?_)
    · have hb16p := dec_t hb16
      refine CW.cond_t rfl hb16 ?_
      refine CW.seq ?_
      refine CW.region ?_
      refine SeqR.d1 rfl rfl rfl (yl_assign rfl rfl ?_)
      refine SeqR.done ?_
      refine tn ?_
      refine CW.ret ?_
      refine tr ?_
      refine rr rfl (.cons rfl .nil) ?_
      have hM17 : (l_szTable p_a p_left) = (-1) := by simp only [l_szTable, hb9, hb16, cond_true, cond_false, loopE_done, loopE_ret]
      rw [hM17]
      have q18 := Ex.trans (Ex.refl w) hE8
      have q19 := Ex.trans q18 hE15
      exact ⟨rfl, q19⟩
    · have hb16p := dec_f hb16
      refine CW.cond_f rfl hb16 ?_
      refine CW.skip ?_
      refine tn ?_
      refine CW.seq ?_
      refine CW.region ?_
      refine SeqR.d1 rfl rfl rfl (yl_fieldAddr Try.fd25_2 rfl rfl ?_)
      have q20 := Box.ex hB7 hE15
      refine SeqR.d1 rfl rfl rfl (yl_load1 Try.ty23 rfl rfl ((q20.cell 2).trans rfl) ?_)
      refine SeqR.d1 rfl rfl rfl (yl_move rfl rfl ?_)
      have q21 := RdS.ex good_Idx h2 hE8
      have q22 := RdS.ex good_Idx q21 hE15
      refine SeqR.d1 rfl rfl rfl (yl_call Try.en67 rfl (opvs_cons rfl (opvs_cons rfl opvs_nil)) (Cal.mono (c_l_szIdxS p_a.Idxs (l_szStringS p_a.Cols (IntKind.wrap .i64 (p_left - (p_a.Name.length : Int)))) (RdS.up q22 good_Idx)) ?_))
      rintro v24 w23 ⟨rfl, hE25⟩
      have hE25z := Ex.size hE25
      refine SeqR.d1 rfl rfl rfl (yl_assign rfl rfl ?_)
      refine SeqR.done ?_
      refine tn ?_
      refine CW.seq ?_
      refine CW.seq ?_
      refine CW.region ?_
      refine SeqR.d1 rfl rfl rfl (yl_move rfl rfl ?_)
      refine SeqR.d1 rfl rfl rfl (yl_lss rfl rfl rfl ?_)
      refine SeqR.done ?_
      refine tn ?_
      refine bcase (decide ((l_szIdxS p_a.Idxs (l_szStringS p_a.Cols (IntKind.wrap .i64 (p_left - (p_a.Name.length : Int))))) < 0)) (fun hb26 => ?_) (fun hb26 => ?_)
      · have hb26p := dec_t hb26
        refine CW.cond_t rfl hb26 ?_
        refine CW.seq ?_
        refine CW.region ?_
        refine SeqR.d1 rfl rfl rfl (yl_assign rfl rfl ?_)
        refine SeqR.done ?_
        refine tn ?_
        refine CW.ret ?_
        refine tr ?_
        refine rr rfl (.cons rfl .nil) ?_
        have hM27 : (l_szTable p_a p_left) = (-1) := by simp only [l_szTable, hb9, hb16, hb26, cond_true, cond_false, loopE_done, loopE_ret]
        rw [hM27]
        have q28 := Ex.trans (Ex.refl w) hE8
        have q29 := Ex.trans q28 hE15
        have q30 := Ex.trans q29 hE25
        exact ⟨rfl, q30⟩
      · have hb26p := dec_f hb26
        refine CW.cond_f rfl hb26 ?_
        refine CW.skip ?_
        refine tn ?_
        refine CW.seq ?_
        refine CW.region ?_
        refine SeqR.d1 rfl rfl rfl (yl_move rfl rfl ?_)
        refine SeqR.d1 rfl rfl rfl (yl_assign rfl rfl ?_)
        refine SeqR.done ?_
        refine tn ?_
        refine CW.ret ?_
        refine rr rfl (.cons rfl .nil) ?_
        have hM31 : (l_szTable p_a p_left) = ((l_szIdxS p_a.Idxs (l_szStringS p_a.Cols (IntKind.wrap .i64 (p_left - (p_a.Name.length : Int)))))) := by simp only [l_szTable, hb9, hb16, hb26, cond_true, cond_false, loopE_done, loopE_ret]
        rw [hM31]
        have q32 := Ex.trans (Ex.refl w) hE8
        have q33 := Ex.trans q32 hE15
        have q34 := Ex.trans q33 hE25
        exact ⟨rfl, q34⟩
set_option maxRecDepth 100000 in
set_option maxHeartbeats 2000000 in
theorem c_l_toStringS {A1 : Option Addr} {c1 : Nat} {w : World} (p_a : List Str) (h1 : RdS w (Iv 0 w.heap.size) (RF e_Str) 1 A1 p_a.length c1 p_a) (o2 : (okL okS) p_a) : Cal Try.prog 70 #[.slice A1 p_a.length c1] w fun v w' => ∃ A_1 c_1 lo_1 hi_1, v = .slice A_1 p_a.length c_1 ∧ OwnL w' lo_1 hi_1 9 1 (RF e_Str) A_1 p_a.length c_1 p_a ∧ (w.heap.size ≤ lo_1 ∧ lo_1 ≤ hi_1 ∧ hi_1 ≤ w'.heap.size) ∧ Ex w w' := by
  have hol3 := o2.1
  refine Cal.of (vs := [.slice A1 p_a.length c1]) Try.func70 rfl Try.ntmps70 rfl ?_
  refine CW.seq ?_
  refine CW.region ?_
  refine SeqR.d1 rfl rfl rfl (yl_assign rfl rfl ?_)
  refine SeqR.done ?_
  refine tn ?_
  refine CW.seq ?_
  refine CW.region ?_
  refine SeqR.d1 rfl rfl rfl (yl_move rfl rfl ?_)
  refine SeqR.d1 rfl rfl rfl (yl_len Try.un22 rfl rfl ?_)
  refine SeqR.d1 rfl rfl rfl (yl_make (zs := [.string (bs (([] : Str)))]) (n := p_a.length) Try.un22 Try.ty9 rfl rfl (Nat.le_of_ble_eq_true rfl) rfl rfl rfl (by first | omega | assumption | (simp only [IntKind.wrap_i64] at *; omega)) (by first | omega | assumption | (simp only [IntKind.wrap_i64] at *; omega)) ?_)
  intro b4 w5 hs6 hz7 hB8 hE9
  have hO10 : OwnL w5 b4 (b4 + 1) 9 1 (RF e_Str) (some ⟨b4, 0, none⟩) p_a.length p_a.length (List.replicate p_a.length d_Str) := by have := OwnL.of_boxF (lo := b4) (hi := b4 + 1) (xs := (List.replicate p_a.length d_Str)) hB8 (Nat.le_refl _) (Nat.lt_succ_self _) (EncL.zerosF (enc := e_Str) (d := d_Str) rfl p_a.length) (by rw [List.length_replicate]; omega); rwa [List.length_replicate] at this
  refine SeqR.d1 rfl rfl rfl (yl_assign rfl rfl ?_)
  refine SeqR.done ?_
  refine tn ?_
  refine CW.seq ?_
  refine CW.seq ?_
  refine CW.region ?_
  refine SeqR.d1 rfl rfl rfl (yl_assign rfl rfl ?_)
  refine SeqR.done ?_
  refine tn ?_
  refine CW.block ?_
  have q23 := RdS.ex good_Str h1 hE9
  have q24 := Ex.trans (Ex.refl w) hE9
  refine CW.loop (fun m20 L21 w22 => ∃ (k11 : Nat) (x19 : List Str), m20 = p_a.length - k11 ∧ k11 ≤ p_a.length ∧ w5.heap.size ≤ w22.heap.size ∧ lkp L21 0 = some (.slice A1 p_a.length c1) ∧ lkp L21 3 = some (.slice (some ⟨b4, 0, none⟩) p_a.length p_a.length) ∧ lkp L21 4 = some (.int .i64 ((k11 : Int))) ∧ RdS w22 (Iv 0 w.heap.size) (RF e_Str) 1 A1 p_a.length c1 p_a ∧ OwnL w22 b4 (b4 + 1) 9 1 (RF e_Str) (some ⟨b4, 0, none⟩) p_a.length p_a.length x19 ∧ Ex w w22 ∧ loopM (B_l_toStringS_0 p_a) (p_a.length - k11) k11 (x19) = loopM (B_l_toStringS_0 p_a) (p_a.length - 0) 0 ((List.replicate p_a.length d_Str))) (p_a.length - 0) ?_ ?_
  · exact ⟨0, (List.replicate p_a.length d_Str), rfl, (by omega), Nat.le_refl _, rfl, rfl, rfl, q23, hO10, q24, rfl⟩
  · rintro m25 L26 w27 ⟨k11, x19, rfl, hk28, hsz30, hl31, hl32, hl33, hf34, hf35, hf36, hI29⟩
    refine CW.sub (Sub.cons hl31 (Sub.cons hl32 (Sub.cons hl33 (Sub.nil _)))) ?_
    have hf36z := Ex.size hf36
    have hbg37 := RdS.big hf34
    rcases Nat.lt_or_ge k11 p_a.length with hlt38 | hlt38
    · skip
      refine CW.seq ?_
      refine CW.seq ?_
      refine CW.region ?_
      refine SeqR.d1 rfl rfl rfl (yl_move rfl rfl ?_)
      refine SeqR.d1 rfl rfl rfl (yl_move rfl rfl ?_)
      refine SeqR.d1 rfl rfl rfl (yl_len Try.un22 rfl rfl ?_)
      refine SeqR.d1 rfl rfl rfl (yl_lss rfl rfl rfl ?_)
      refine SeqR.done ?_
      refine tn ?_
      refine CW.cond_t rfl (lt_t hlt38) ?_
      refine CW.skip ?_
      refine tn ?_
      refine CW.seq ?_
      refine CW.block ?_
      refine CW.region ?_
      refine SeqR.d1 rfl rfl rfl (yl_move rfl rfl ?_)
      refine SeqR.d1 rfl rfl rfl (yl_move rfl rfl ?_)
      refine SeqR.d1 rfl rfl rfl (yl_move rfl rfl ?_)
      refine SeqR.d1 rfl rfl rfl (yl_move rfl rfl ?_)
      obtain ⟨eb39, eo39, ec39, eA39, eS39, ebl39, el39, eR39, eC39⟩ := RdS.atD hf34 d_Str (i := k11) (by first | omega | assumption)
      obtain rfl := eR39
      have eC39 : Cells w27 eb39 (eo39 + k11 * 1) [.string (bs ((p_a.getD k11 d_Str)))] := eC39
      refine SeqR.d1 rfl rfl rfl (yl_indexAddrN Try.un22 Try.ty9 rfl rfl rfl eA39 (by first | omega | assumption | (simp only [IntKind.wrap_i64] at *; omega)) ?_)
      refine SeqR.d1 rfl rfl rfl (yl_load1 Try.ty9 rfl rfl (eC39 0 _ rfl) ?_)
      have q40 := OwnL.rd good_Str hf35
      obtain ⟨eb41, eo41, ec41, eA41, eS41, ebl41, el41, eR41, eC41⟩ := RdS.atD q40 d_Str (i := k11) (by first | omega | assumption)
      obtain rfl := eR41
      have eC41 : Cells w27 eb41 (eo41 + k11 * 1) [.string (bs ((x19.getD k11 d_Str)))] := eC41
      refine SeqR.d1 rfl rfl rfl (yl_indexAddrN Try.un22 Try.ty9 rfl rfl rfl eA41 (by first | omega | assumption | (simp only [IntKind.wrap_i64] at *; omega)) ?_)
      have hrg42 := OwnL.rng hf35 (i := k11) (by first | omega | assumption | (simp only [IntKind.wrap_i64] at *; omega)) eb41 (by rw [eA41]; rfl)
      refine SeqR.u rfl rfl (yl_storeF (off := eo41) (i := k11) (d := 0) (dx := d_Str) (x' := (p_a.getD k11 d_Str)) (vs := [.string (bs ((p_a.getD k11 d_Str)))]) Try.ty9 rfl hf35 eA41 rfl rfl rfl rfl rfl (by first | omega | assumption | (simp only [IntKind.wrap_i64] at *; omega)) (Nat.le_of_ble_eq_true rfl) rfl rfl ?_)
      intro w43 hB44 hO45
      have hO45z := hO45.size
      refine SeqR.done ?_
      refine bn ?_
      refine tn ?_
      refine CW.region ?_
      refine SeqR.d1 rfl rfl rfl (yl_move rfl rfl ?_)
      refine SeqR.d1 rfl rfl rfl (yl_inc rfl rfl rfl (by omega) ?_)
      refine SeqR.d1 rfl rfl rfl (yl_assign rfl rfl ?_)
      refine SeqR.done ?_
      refine tn ?_
      have hB46 : B_l_toStringS_0 p_a k11 (x19) = .cont ((x19.set k11 (p_a.getD k11 d_Str))) := by simp only [B_l_toStringS_0, cond_true, cond_false, loopE_done, loopE_ret]
      have q47 := RdS.only good_Str hf34 hO45 (by simp only [Iv]; omega)
      have q48 := Below.only hf36 hO45 (by omega)
      exact ⟨p_a.length - (k11 + 1), by omega, k11 + 1, (x19.set k11 (p_a.getD k11 d_Str)), rfl, hlt38, (by omega), rfl, rfl, rfl, q47, hB44, q48, (loopM.cont hlt38 hB46).symm.trans hI29⟩
    · skip
      refine CW.seq ?_
      refine CW.seq ?_
      refine CW.region ?_
      refine SeqR.d1 rfl rfl rfl (yl_move rfl rfl ?_)
      refine SeqR.d1 rfl rfl rfl (yl_move rfl rfl ?_)
      refine SeqR.d1 rfl rfl rfl (yl_len Try.un22 rfl rfl ?_)
      refine SeqR.d1 rfl rfl rfl (yl_lss rfl rfl rfl ?_)
      refine SeqR.done ?_
      refine tn ?_
      refine CW.cond_f rfl (lt_f hlt38) ?_
      refine CW.exit ?_
      refine tx ?_
      refine tx ?_
      have hL49 : loopM (B_l_toStringS_0 p_a) (p_a.length - 0) 0 ((List.replicate p_a.length d_Str)) = .done (x19) := hI29.symm.trans (loopM.stop hlt38)
      refine bx ?_
      refine tn ?_
      refine CW.seq ?_
      refine CW.region ?_
      refine SeqR.d1 rfl rfl rfl (yl_move rfl rfl ?_)
      refine SeqR.d1 rfl rfl rfl (yl_assign rfl rfl ?_)
      refine SeqR.done ?_
      refine tn ?_
      refine CW.ret ?_
      refine rr rfl (.cons rfl .nil) ?_
      have hM50 : p_a = (x19) := (to_StringS _).symm.trans <| by simp only [l_toStringS, hL49, cond_true, cond_false, loopE_done, loopE_ret]
      subst hM50
      exact ⟨(some ⟨b4, 0, none⟩), p_a.length, b4, (b4 + 1), rfl, hf35, (by omega), hf36⟩
set_option maxRecDepth 100000 in
set_option maxHeartbeats 2000000 in
theorem c_l_toIdx {w : World} (p_a : DIdx) (o1 : ok_Idx p_a) : Cal Try.prog 141 #[.agg #[.string (bs (p_a.Name)), .int .i64 (p_a.Col), .int .i64 (p_a.Stage)]] w fun v w' => v = .agg #[.string (bs (p_a.Name)), .int .i64 (p_a.Col), .int .i64 (p_a.Stage)] ∧ Ex w w' := by
  have hol2 : p_a.Name.length ≤ 1073741824 := o1
  refine Cal.of (vs := [.agg #[.string (bs (p_a.Name)), .int .i64 (p_a.Col), .int .i64 (p_a.Stage)]]) Try.func141 rfl Try.ntmps141 rfl ?_
  refine CW.seq ?_
  refine CW.region ?_
  refine SeqR.d1 rfl rfl rfl (yl_box (cs := [.string (bs (p_a.Name)), .int .i64 (p_a.Col), .int .i64 (p_a.Stage)]) rfl rfl rfl ?_)
  intro b3 w4 hs5 hz6 hB7 hE8
  refine SeqR.d1 rfl rfl rfl (yl_alloc Try.ty132 (cs := [.string (bs (([] : Str))), .int .i64 (0), .int .i64 (0)]) rfl rfl ?_)
  intro b9 w10 hs11 hz12 hB13 hE14
  refine SeqR.done ?_
  refine tn ?_
  refine CW.seq ?_
  refine CW.region ?_
  refine SeqR.d1 rfl rfl rfl (yl_alloc Try.ty132 (cs := [.string (bs (([] : Str))), .int .i64 (0), .int .i64 (0)]) rfl rfl ?_)
  intro b15 w16 hs17 hz18 hB19 hE20
  refine SeqR.done ?_
  refine tn ?_
  refine CW.seq ?_
  refine CW.region ?_
  refine SeqR.d1 rfl rfl rfl (yl_fieldAddr Try.fd177_0 rfl rfl ?_)
  have q21 := Box.ex hB7 hE14
  have q22 := Box.ex q21 hE20
  refine SeqR.d1 rfl rfl rfl (yl_load1 Try.ty9 rfl rfl ((q22.cell 0).trans rfl) ?_)
  refine SeqR.d1 rfl rfl rfl (yl_fieldAddr Try.fd132_0 rfl rfl ?_)
  refine SeqR.u rfl rfl (yl_store (vs := [.string (bs (p_a.Name))]) Try.ty9 rfl rfl rfl rfl rfl rfl hB19 (Nat.le_of_ble_eq_true rfl) ?_)
  intro w23 hB24 hO25
  have hB24 : Box w23 b15 132 [.string (bs (p_a.Name)), .int .i64 (0), .int .i64 (0)] := hB24
  have hO25z := hO25.size
  refine SeqR.done ?_
  refine tn ?_
  refine CW.seq ?_
  refine CW.region ?_
  refine SeqR.d1 rfl rfl rfl (yl_fieldAddr Try.fd177_1 rfl rfl ?_)
  have q26 := Box.only q22 hO25 (by omega)
  refine SeqR.d1 rfl rfl rfl (yl_load1 Try.ty3 rfl rfl ((q26.cell 1).trans rfl) ?_)
  refine SeqR.d1 rfl rfl rfl (yl_fieldAddr Try.fd132_1 rfl rfl ?_)
  refine SeqR.u rfl rfl (yl_store (vs := [.int .i64 (p_a.Col)]) Try.ty3 rfl rfl rfl rfl rfl rfl hB24 (Nat.le_of_ble_eq_true rfl) ?_)
  intro w27 hB28 hO29
  have hB28 : Box w27 b15 132 [.string (bs (p_a.Name)), .int .i64 (p_a.Col), .int .i64 (0)] := hB28
  have hO29z := hO29.size
  refine SeqR.done ?_
  refine tn ?_
  refine CW.seq ?_
  refine CW.region ?_
  refine SeqR.d1 rfl rfl rfl (yl_fieldAddr Try.fd177_2 rfl rfl ?_)
  have q30 := Box.only q26 hO29 (by omega)
  refine SeqR.d1 rfl rfl rfl (yl_load1 Try.ty3 rfl rfl ((q30.cell 2).trans rfl) ?_)
  refine SeqR.d1 rfl rfl rfl (yl_fieldAddr Try.fd132_2 rfl rfl ?_)
  refine SeqR.u rfl rfl (yl_store (vs := [.int .i64 (p_a.Stage)]) Try.ty3 rfl rfl rfl rfl rfl rfl hB28 (Nat.le_of_ble_eq_true rfl) ?_)
  intro w31 hB32 hO33
  have hB32 : Box w31 b15 132 [.string (bs (p_a.Name)), .int .i64 (p_a.Col), .int .i64 (p_a.Stage)] := hB32
  have hO33z := hO33.size
  refine SeqR.done ?_
  refine tn ?_
  refine CW.seq ?_
  refine CW.region ?_
  refine SeqR.d1 rfl rfl rfl (yl_loadN (cs := [.string (bs (p_a.Name)), .int .i64 (p_a.Col), .int .i64 (p_a.Stage)]) Try.ty132 rfl rfl (hB32.cells (n := 3) rfl) rfl ?_)
  have q34 := Box.ex hB13 hE20
  have q35 := Box.only q34 hO25 (by omega)
  have q36 := Box.only q35 hO29 (by omega)
  have q37 := Box.only q36 hO33 (by omega)
  refine SeqR.u rfl rfl (yl_store (vs := [.string (bs (p_a.Name)), .int .i64 (p_a.Col), .int .i64 (p_a.Stage)]) Try.ty132 rfl rfl rfl rfl rfl rfl q37 (Nat.le_of_ble_eq_true rfl) ?_)
  intro w38 hB39 hO40
  have hB39 : Box w38 b9 132 [.string (bs (p_a.Name)), .int .i64 (p_a.Col), .int .i64 (p_a.Stage)] := hB39
  have hO40z := hO40.size
  refine SeqR.done ?_
  refine tn ?_
  refine CW.ret ?_
  refine rr rfl (.cons ⟨_, rfl, run_loadN Try.ty132 (cs := [.string (bs (p_a.Name)), .int .i64 (p_a.Col), .int .i64 (p_a.Stage)]) rfl (hB39.cells (n := 3) rfl)⟩ .nil) ?_
  have hM41 : p_a = (p_a) := (to_Idx _).symm.trans <| by simp only [l_toIdx, cond_true, cond_false, loopE_done, loopE_ret]
  rw [hM41]
  have q42 := Ex.trans (Ex.refl w) hE8
  have q43 := Ex.trans q42 hE14
  have q44 := Ex.trans q43 hE20
  have q45 := Below.only q44 hO25 (by omega)
  have q46 := Below.only q45 hO29 (by omega)
  have q47 := Below.only q46 hO33 (by omega)
  have q48 := Below.only q47 hO40 (by omega)
  exact ⟨rfl, q48⟩
set_option maxRecDepth 100000 in
set_option maxHeartbeats 2000000 in
theorem c_l_toIdxS {A1 : Option Addr} {c1 : Nat} {w : World} (p_a : List DIdx) (h1 : RdS w (Iv 0 w.heap.size) (RF e_Idx) 3 A1 p_a.length c1 p_a) (o2 : (okL ok_Idx) p_a) : Cal Try.prog 71 #[.slice A1 p_a.length c1] w fun v w' => ∃ A_1 c_1 lo_1 hi_1, v = .slice A_1 p_a.length c_1 ∧ OwnL w' lo_1 hi_1 132 3 (RF e_Idx) A_1 p_a.length c_1 p_a ∧ (w.heap.size ≤ lo_1 ∧ lo_1 ≤ hi_1 ∧ hi_1 ≤ w'.heap.size) ∧ Ex w w' := by
  have hol3 := o2.1
  refine Cal.of (vs := [.slice A1 p_a.length c1]) Try.func71 rfl Try.ntmps71 rfl ?_
  refine CW.seq ?_
  refine CW.region ?_
  refine SeqR.d1 rfl rfl rfl (yl_assign rfl rfl ?_)
  refine SeqR.done ?_
  refine tn ?_
  refine CW.seq ?_
  refine CW.region ?_
  refine SeqR.d1 rfl rfl rfl (yl_move rfl rfl ?_)
  refine SeqR.d1 rfl rfl rfl (yl_len Try.un23 rfl rfl ?_)
  refine SeqR.d1 rfl rfl rfl (yl_make (zs := [.string (bs (([] : Str))), .int .i64 (0), .int .i64 (0)]) (n := p_a.length) Try.un33 Try.ty132 rfl rfl (Nat.le_of_ble_eq_true rfl) rfl rfl rfl (by first | omega | assumption | (simp only [IntKind.wrap_i64] at *; omega)) (by first | omega | assumption | (simp only [IntKind.wrap_i64] at *; omega)) ?_)
  intro b4 w5 hs6 hz7 hB8 hE9
  have hO10 : OwnL w5 b4 (b4 + 1) 132 3 (RF e_Idx) (some ⟨b4, 0, none⟩) p_a.length p_a.length (List.replicate p_a.length d_Idx) := by have := OwnL.of_boxF (lo := b4) (hi := b4 + 1) (xs := (List.replicate p_a.length d_Idx)) hB8 (Nat.le_refl _) (Nat.lt_succ_self _) (EncL.zerosF (enc := e_Idx) (d := d_Idx) rfl p_a.length) (by rw [List.length_replicate]; omega); rwa [List.length_replicate] at this
  refine SeqR.d1 rfl rfl rfl (yl_assign rfl rfl ?_)
  refine SeqR.done ?_
  refine tn ?_
  refine CW.seq ?_
  refine CW.seq ?_
  refine CW.region ?_
  refine SeqR.d1 rfl rfl rfl (yl_assign rfl rfl ?_)
  refine SeqR.done ?_
  refine tn ?_
  refine CW.block ?_
  have q26 := RdS.ex good_Idx h1 hE9
  have q27 := Ex.trans (Ex.refl w) hE9
  refine CW.loop (fun m23 L24 w25 => ∃ (k11 : Nat) (x22 : List DIdx), m23 = p_a.length - k11 ∧ k11 ≤ p_a.length ∧ w5.heap.size ≤ w25.heap.size ∧ lkp L24 0 = some (.slice A1 p_a.length c1) ∧ lkp L24 3 = some (.slice (some ⟨b4, 0, none⟩) p_a.length p_a.length) ∧ lkp L24 4 = some (.int .i64 ((k11 : Int))) ∧ RdS w25 (Iv 0 w.heap.size) (RF e_Idx) 3 A1 p_a.length c1 p_a ∧ OwnL w25 b4 (b4 + 1) 132 3 (RF e_Idx) (some ⟨b4, 0, none⟩) p_a.length p_a.length x22 ∧ Ex w w25 ∧ loopM (B_l_toIdxS_0 p_a) (p_a.length - k11) k11 (x22) = loopM (B_l_toIdxS_0 p_a) (p_a.length - 0) 0 ((List.replicate p_a.length d_Idx))) (p_a.length - 0) ?_ ?_
  · exact ⟨0, (List.replicate p_a.length d_Idx), rfl, (by omega), Nat.le_refl _, rfl, rfl, rfl, q26, hO10, q27, rfl⟩
  · rintro m28 L29 w30 ⟨k11, x22, rfl, hk31, hsz33, hl34, hl35, hl36, hf37, hf38, hf39, hI32⟩
    refine CW.sub (Sub.cons hl34 (Sub.cons hl35 (Sub.cons hl36 (Sub.nil _)))) ?_
    have hf39z := Ex.size hf39
    have hbg40 := RdS.big hf37
    rcases Nat.lt_or_ge k11 p_a.length with hlt41 | hlt41
    · skip
      refine CW.seq ?_
      refine CW.seq ?_
      refine CW.region ?_
      refine SeqR.d1 rfl rfl rfl (yl_move rfl rfl ?_)
      refine SeqR.d1 rfl rfl rfl (yl_move rfl rfl ?_)
      refine SeqR.d1 rfl rfl rfl (yl_len Try.un23 rfl rfl ?_)
      refine SeqR.d1 rfl rfl rfl (yl_lss rfl rfl rfl ?_)
      refine SeqR.done ?_
      refine tn ?_
      refine CW.cond_t rfl (lt_t hlt41) ?_
      refine CW.skip ?_
      refine tn ?_
      refine CW.seq ?_
      refine CW.block ?_
      refine CW.region ?_
      refine SeqR.d1 rfl rfl rfl (yl_move rfl rfl ?_)
      refine SeqR.d1 rfl rfl rfl (yl_move rfl rfl ?_)
      refine SeqR.d1 rfl rfl rfl (yl_move rfl rfl ?_)
      refine SeqR.d1 rfl rfl rfl (yl_move rfl rfl ?_)
      obtain ⟨eb42, eo42, ec42, eA42, eS42, ebl42, el42, eR42, eC42⟩ := RdS.atD hf37 d_Idx (i := k11) (by first | omega | assumption)
      obtain rfl := eR42
      have eC42 : Cells w30 eb42 (eo42 + k11 * 3) [.string (bs ((p_a.getD k11 d_Idx).Name)), .int .i64 ((p_a.getD k11 d_Idx).Col), .int .i64 ((p_a.getD k11 d_Idx).Stage)] := eC42
      refine SeqR.d1 rfl rfl rfl (yl_indexAddrN Try.un23 Try.ty177 rfl rfl rfl eA42 (by first | omega | assumption | (simp only [IntKind.wrap_i64] at *; omega)) ?_)
      refine SeqR.d1 rfl rfl rfl (yl_loadN (cs := [.string (bs ((p_a.getD k11 d_Idx).Name)), .int .i64 ((p_a.getD k11 d_Idx).Col), .int .i64 ((p_a.getD k11 d_Idx).Stage)]) Try.ty177 rfl rfl eC42 rfl ?_)
      refine SeqR.d1 rfl rfl rfl (yl_call Try.en141 rfl (opvs_cons rfl opvs_nil) (Cal.mono (c_l_toIdx (p_a.getD k11 d_Idx) (okL.getD o2 ok_d_Idx _)) ?_))
      rintro v44 w43 ⟨rfl, hE45⟩
      have hE45z := Ex.size hE45
      have q47 := OwnL.ex good_Idx hf38 hE45
      have q46 := OwnL.rd good_Idx q47
      obtain ⟨eb48, eo48, ec48, eA48, eS48, ebl48, el48, eR48, eC48⟩ := RdS.atD q46 d_Idx (i := k11) (by first | omega | assumption)
      obtain rfl := eR48
      have eC48 : Cells w43 eb48 (eo48 + k11 * 3) [.string (bs ((x22.getD k11 d_Idx).Name)), .int .i64 ((x22.getD k11 d_Idx).Col), .int .i64 ((x22.getD k11 d_Idx).Stage)] := eC48
      refine SeqR.d1 rfl rfl rfl (yl_indexAddrN Try.un33 Try.ty132 rfl rfl rfl eA48 (by first | omega | assumption | (simp only [IntKind.wrap_i64] at *; omega)) ?_)
      have hrg49 := OwnL.rng q47 (i := k11) (by first | omega | assumption | (simp only [IntKind.wrap_i64] at *; omega)) eb48 (by rw [eA48]; rfl)
      refine SeqR.u rfl rfl (yl_storeF (off := eo48) (i := k11) (d := 0) (dx := d_Idx) (x' := (p_a.getD k11 d_Idx)) (vs := [.string (bs ((p_a.getD k11 d_Idx).Name)), .int .i64 ((p_a.getD k11 d_Idx).Col), .int .i64 ((p_a.getD k11 d_Idx).Stage)]) Try.ty132 rfl q47 eA48 rfl rfl rfl rfl rfl (by first | omega | assumption | (simp only [IntKind.wrap_i64] at *; omega)) (Nat.le_of_ble_eq_true rfl) rfl rfl ?_)
      intro w50 hB51 hO52
      have hO52z := hO52.size
      refine SeqR.done ?_
      refine bn ?_
      refine tn ?_
      refine CW.region ?_
      refine SeqR.d1 rfl rfl rfl (yl_move rfl rfl ?_)
      refine SeqR.d1 rfl rfl rfl (yl_inc rfl rfl rfl (by omega) ?_)
      refine SeqR.d1 rfl rfl rfl (yl_assign rfl rfl ?_)
      refine SeqR.done ?_
      refine tn ?_
      have hB53 : B_l_toIdxS_0 p_a k11 (x22) = .cont ((x22.set k11 (p_a.getD k11 d_Idx))) := by simp only [B_l_toIdxS_0, cond_true, cond_false, loopE_done, loopE_ret]
      have q54 := RdS.ex good_Idx hf37 hE45
      have q55 := RdS.only good_Idx q54 hO52 (by simp only [Iv]; omega)
      have q56 := Ex.trans hf39 hE45
      have q57 := Below.only q56 hO52 (by omega)
      exact ⟨p_a.length - (k11 + 1), by omega, k11 + 1, (x22.set k11 (p_a.getD k11 d_Idx)), rfl, hlt41, (by omega), rfl, rfl, rfl, q55, hB51, q57, (loopM.cont hlt41 hB53).symm.trans hI32⟩
    · skip
      refine CW.seq ?_
      refine CW.seq ?_
      refine CW.region ?_
      refine SeqR.d1 rfl rfl rfl (yl_move rfl rfl ?_)
      refine SeqR.d1 rfl rfl rfl (yl_move rfl rfl ?_)
      refine SeqR.d1 rfl rfl rfl (yl_len Try.un23 rfl rfl ?_)
      refine SeqR.d1 rfl rfl rfl (yl_lss rfl rfl rfl ?_)
      refine SeqR.done ?_
      refine tn ?_
      refine CW.cond_f rfl (lt_f hlt41) ?_
      refine CW.exit ?_
      refine tx ?_
      refine tx ?_
      have hL58 : loopM (B_l_toIdxS_0 p_a) (p_a.length - 0) 0 ((List.replicate p_a.length d_Idx)) = .done (x22) := hI32.symm.trans (loopM.stop hlt41)
      refine bx ?_
      refine tn ?_
      refine CW.seq ?_
      refine CW.region ?_
      refine SeqR.d1 rfl rfl rfl (yl_move rfl rfl ?_)
      refine SeqR.d1 rfl rfl rfl (yl_assign rfl rfl ?_)
      refine SeqR.done ?_
      refine tn ?_
      refine CW.ret ?_
      refine rr rfl (.cons rfl .nil) ?_
      have hM59 : p_a = (x22) := (to_IdxS _).symm.trans <| by simp only [l_toIdxS, hL58, cond_true, cond_false, loopE_done, loopE_ret]
      subst hM59
      exact ⟨(some ⟨b4, 0, none⟩), p_a.length, b4, (b4 + 1), rfl, hf38, (by omega), hf39⟩
set_option maxRecDepth 100000 in
set_option maxHeartbeats 2000000 in
theorem c_l_toTable {A1 : Option Addr} {c1 : Nat} {A2 : Option Addr} {c2 : Nat} {w : World} (p_a : DTable) (h1 : RdS w (Iv 0 w.heap.size) (RF e_Str) 1 A1 p_a.Cols.length c1 p_a.Cols) (h2 : RdS w (Iv 0 w.heap.size) (RF e_Idx) 3 A2 p_a.Idxs.length c2 p_a.Idxs) (o3 : ok_Table p_a) : Cal Try.prog 17 #[.agg #[.string (bs (p_a.Name)), .slice A1 p_a.Cols.length c1, .slice A2 p_a.Idxs.length c2]] w fun v w' => ∃ A_1 c_1 lo_1 hi_1 A_2 c_2 lo_2 hi_2, v = .agg #[.string (bs (p_a.Name)), .slice A_1 p_a.Cols.length c_1, .slice A_2 p_a.Idxs.length c_2] ∧ OwnL w' lo_1 hi_1 9 1 (RF e_Str) A_1 p_a.Cols.length c_1 p_a.Cols ∧ OwnL w' lo_2 hi_2 132 3 (RF e_Idx) A_2 p_a.Idxs.length c_2 p_a.Idxs ∧ (w.heap.size ≤ lo_1 ∧ lo_1 ≤ hi_1 ∧ hi_1 ≤ w'.heap.size) ∧ (w.heap.size ≤ lo_2 ∧ lo_2 ≤ hi_2 ∧ hi_2 ≤ w'.heap.size) ∧ (hi_1 ≤ lo_2 ∨ hi_2 ≤ lo_1) ∧ Ex w w' := by
  have hol4 : p_a.Name.length ≤ 1073741824 := o3.1
  have hol5 := o3.2.1.1
  have hol6 := o3.2.2.1
  refine Cal.of (vs := [.agg #[.string (bs (p_a.Name)), .slice A1 p_a.Cols.length c1, .slice A2 p_a.Idxs.length c2]]) Try.func17 rfl Try.ntmps17 rfl ?_
  refine CW.seq ?_
  refine CW.region ?_
  refine SeqR.d1 rfl rfl rfl (yl_box (cs := [.string (bs (p_a.Name)), .slice A1 p_a.Cols.length c1, .slice A2 p_a.Idxs.length c2]) rfl rfl rfl ?_)
  intro b7 w8 hs9 hz10 hB11 hE12
  refine SeqR.d1 rfl rfl rfl (yl_alloc Try.ty35 (cs := [.string (bs (([] : Str))), .slice none 0 0, .slice none 0 0]) rfl rfl ?_)
  intro b13 w14 hs15 hz16 hB17 hE18
  refine SeqR.done ?_
  refine tn ?_
  refine CW.seq ?_
  refine CW.region ?_
  refine SeqR.d1 rfl rfl rfl (yl_alloc Try.ty35 (cs := [.string (bs (([] : Str))), .slice none 0 0, .slice none 0 0]) rfl rfl ?_)
  intro b19 w20 hs21 hz22 hB23 hE24
  refine SeqR.done ?_
  refine tn ?_
  refine CW.seq ?_
  refine CW.region ?_
  refine SeqR.d1 rfl rfl rfl (yl_fieldAddr Try.fd25_0 rfl rfl ?_)
  have q25 := Box.ex hB11 hE18
  have q26 := Box.ex q25 hE24
  refine SeqR.d1 rfl rfl rfl (yl_load1 Try.ty9 rfl rfl ((q26.cell 0).trans rfl) ?_)
  refine SeqR.d1 rfl rfl rfl (yl_fieldAddr Try.fd35_0 rfl rfl ?_)
  refine SeqR.u rfl rfl (yl_store (vs := [.string (bs (p_a.Name))]) Try.ty9 rfl rfl rfl rfl rfl rfl hB23 (Nat.le_of_ble_eq_true rfl) ?_)
  intro w27 hB28 hO29
  have hB28 : Box w27 b19 35 [.string (bs (p_a.Name)), .slice none 0 0, .slice none 0 0] := hB28
  have hO29z := hO29.size
  refine SeqR.done ?_
  refine tn ?_
  refine CW.seq ?_
  refine CW.region ?_
  refine SeqR.d1 rfl rfl rfl (yl_fieldAddr Try.fd25_1 rfl rfl ?_)
  have q30 := Box.only q26 hO29 (by omega)
  refine SeqR.d1 rfl rfl rfl (yl_load1 Try.ty22 rfl rfl ((q30.cell 1).trans rfl) ?_)
  have q31 := RdS.ex good_Str h1 hE12
  have q32 := RdS.ex good_Str q31 hE18
  have q33 := RdS.ex good_Str q32 hE24
  have q34 := RdS.only good_Str q33 hO29 (by simp only [Iv]; omega)
  refine SeqR.d1 rfl rfl rfl (yl_call Try.en70 rfl (opvs_cons rfl opvs_nil) (Cal.mono (c_l_toStringS p_a.Cols (RdS.up q34 good_Str) o3.2.1) ?_))
  rintro v37 w35 ⟨A36, c36, lo36, hi36, rfl, h36, hrn39, hE38⟩
  have hE38z := Ex.size hE38
  refine SeqR.d1 rfl rfl rfl (yl_fieldAddr Try.fd35_1 rfl rfl ?_)
  have q40 := Box.ex hB28 hE38
  refine SeqR.u rfl rfl (yl_store (vs := [.slice A36 p_a.Cols.length c36]) Try.ty22 rfl rfl rfl rfl rfl rfl q40 (Nat.le_of_ble_eq_true rfl) ?_)
  intro w41 hB42 hO43
  have hB42 : Box w41 b19 35 [.string (bs (p_a.Name)), .slice A36 p_a.Cols.length c36, .slice none 0 0] := hB42
  have hO43z := hO43.size
  refine SeqR.done ?_
  refine tn ?_
  refine CW.seq ?_
  refine CW.region ?_
  refine SeqR.d1 rfl rfl rfl (yl_fieldAddr Try.fd25_2 rfl rfl ?_)
  have q44 := Box.ex q30 hE38
  have q45 := Box.only q44 hO43 (by omega)
  refine SeqR.d1 rfl rfl rfl (yl_load1 Try.ty23 rfl rfl ((q45.cell 2).trans rfl) ?_)
  have q46 := RdS.ex good_Idx h2 hE12
  have q47 := RdS.ex good_Idx q46 hE18
  have q48 := RdS.ex good_Idx q47 hE24
  have q49 := RdS.only good_Idx q48 hO29 (by simp only [Iv]; omega)
  have q50 := RdS.ex good_Idx q49 hE38
  have q51 := RdS.only good_Idx q50 hO43 (by simp only [Iv]; omega)
  refine SeqR.d1 rfl rfl rfl (yl_call Try.en71 rfl (opvs_cons rfl opvs_nil) (Cal.mono (c_l_toIdxS p_a.Idxs (RdS.up q51 good_Idx) o3.2.2) ?_))
  rintro v54 w52 ⟨A53, c53, lo53, hi53, rfl, h53, hrn56, hE55⟩
  have hE55z := Ex.size hE55
  refine SeqR.d1 rfl rfl rfl (yl_fieldAddr Try.fd35_2 rfl rfl ?_)
  have q57 := Box.ex hB42 hE55
  refine SeqR.u rfl rfl (yl_store (vs := [.slice A53 p_a.Idxs.length c53]) Try.ty33 rfl rfl rfl rfl rfl rfl q57 (Nat.le_of_ble_eq_true rfl) ?_)
  intro w58 hB59 hO60
  have hB59 : Box w58 b19 35 [.string (bs (p_a.Name)), .slice A36 p_a.Cols.length c36, .slice A53 p_a.Idxs.length c53] := hB59
  have hO60z := hO60.size
  refine SeqR.done ?_
  refine tn ?_
  refine CW.seq ?_
  refine CW.region ?_
  refine SeqR.d1 rfl rfl rfl (yl_loadN (cs := [.string (bs (p_a.Name)), .slice A36 p_a.Cols.length c36, .slice A53 p_a.Idxs.length c53]) Try.ty35 rfl rfl (hB59.cells (n := 3) rfl) rfl ?_)
  have q61 := Box.ex hB17 hE24
  have q62 := Box.only q61 hO29 (by omega)
  have q63 := Box.ex q62 hE38
  have q64 := Box.only q63 hO43 (by omega)
  have q65 := Box.ex q64 hE55
  have q66 := Box.only q65 hO60 (by omega)
  refine SeqR.u rfl rfl (yl_store (vs := [.string (bs (p_a.Name)), .slice A36 p_a.Cols.length c36, .slice A53 p_a.Idxs.length c53]) Try.ty35 rfl rfl rfl rfl rfl rfl q66 (Nat.le_of_ble_eq_true rfl) ?_)
  intro w67 hB68 hO69
  have hB68 : Box w67 b13 35 [.string (bs (p_a.Name)), .slice A36 p_a.Cols.length c36, .slice A53 p_a.Idxs.length c53] := hB68
  have hO69z := hO69.size
  refine SeqR.done ?_
  refine tn ?_
  refine CW.ret ?_
  refine rr rfl (.cons ⟨_, rfl, run_loadN Try.ty35 (cs := [.string (bs (p_a.Name)), .slice A36 p_a.Cols.length c36, .slice A53 p_a.Idxs.length c53]) rfl (hB68.cells (n := 3) rfl)⟩ .nil) ?_
  have hM70 : p_a = (p_a) := (to_Table _).symm.trans <| by simp only [l_toTable, cond_true, cond_false, loopE_done, loopE_ret]
  have q71 := OwnL.only good_Str h36 hO43 (by omega)
  have q72 := OwnL.ex good_Str q71 hE55
  have q73 := OwnL.only good_Str q72 hO60 (by omega)
  have q74 := OwnL.only good_Str q73 hO69 (by omega)
  have q75 := OwnL.only good_Idx h53 hO60 (by omega)
  have q76 := OwnL.only good_Idx q75 hO69 (by omega)
  rw [hM70]
  have q77 := Ex.trans (Ex.refl w) hE12
  have q78 := Ex.trans q77 hE18
  have q79 := Ex.trans q78 hE24
  have q80 := Below.only q79 hO29 (by omega)
  have q81 := Ex.trans q80 hE38
  have q82 := Below.only q81 hO43 (by omega)
  have q83 := Ex.trans q82 hE55
  have q84 := Below.only q83 hO60 (by omega)
  have q85 := Below.only q84 hO69 (by omega)
  exact ⟨A36, c36, lo36, hi36, A53, c53, lo53, hi53, rfl, q74, q76, (by omega), (by omega), (by omega), q85⟩
set_option maxRecDepth 100000 in
set_option maxHeartbeats 2000000 in
theorem c_l_eqStringS {A1 : Option Addr} {c1 : Nat} {A2 : Option Addr} {c2 : Nat} {w : World} (p_a : List Str) (p_b : List Str) (h1 : RdS w (Iv 0 w.heap.size) (RF e_Str) 1 A1 p_a.length c1 p_a) (h2 : RdS w (Iv 0 w.heap.size) (RF e_Str) 1 A2 p_b.length c2 p_b) : Cal Try.prog 74 #[.slice A1 p_a.length c1, .slice A2 p_b.length c2] w fun v w' => v = .bool ((l_eqStringS p_a p_b)) ∧ Ex w w' := by
  refine Cal.of (vs := [.slice A1 p_a.length c1, .slice A2 p_b.length c2]) Try.func74 rfl Try.ntmps74 rfl ?_
  refine CW.seq ?_
  refine CW.region ?_
  refine SeqR.d1 rfl rfl rfl (yl_assign rfl rfl ?_)
  refine SeqR.done ?_
  refine tn ?_
  refine CW.seq ?_
  refine CW.seq ?_
  refine CW.region ?_
  refine SeqR.d1 rfl rfl rfl (yl_move rfl rfl ?_)
  refine SeqR.d1 rfl rfl rfl (yl_len Try.un22 rfl rfl ?_)
  refine SeqR.d1 rfl rfl rfl (yl_move rfl rfl ?_)
  refine SeqR.d1 rfl rfl rfl (yl_len Try.un22 rfl rfl ?_)
  refine SeqR.d1 rfl rfl rfl (yl_neq rfl rfl rfl ?_)
  refine SeqR.done ?_
  refine tn ?_
  refine bcase (decide ((p_a.length : Int) = (p_b.length : Int))) (fun hb3 => ?_) (fun hb3 => ?_)
  · have hb3p := dec_t hb3
    refine CW.cond_f rfl (not_t hb3) ?_
    refine CW.skip ?_
    refine tn ?_
    refine CW.seq ?_
    refine CW.seq ?_
    refine CW.region ?_
    refine SeqR.d1 rfl rfl rfl (yl_assign rfl rfl ?_)
    refine SeqR.done ?_
    refine tn ?_
    refine CW.block ?_
    refine CW.loop (fun m5 L6 w7 => ∃ (k4 : Nat), m5 = p_a.length - k4 ∧ k4 ≤ p_a.length ∧ w.heap.size ≤ w7.heap.size ∧ lkp L6 0 = some (.slice A1 p_a.length c1) ∧ lkp L6 1 = some (.slice A2 p_b.length c2) ∧ lkp L6 5 = some (.int .i64 ((k4 : Int))) ∧ RdS w7 (Iv 0 w.heap.size) (RF e_Str) 1 A1 p_a.length c1 p_a ∧ RdS w7 (Iv 0 w.heap.size) (RF e_Str) 1 A2 p_b.length c2 p_b ∧ Ex w w7 ∧ loopM (B_l_eqStringS_0 p_a p_b) (p_a.length - k4) k4 () = loopM (B_l_eqStringS_0 p_a p_b) (p_a.length - 0) 0 ()) (p_a.length - 0) ?_ ?_
    · exact ⟨0, rfl, (by omega), Nat.le_refl _, rfl, rfl, rfl, h1, h2, (Ex.refl w), rfl⟩
    · rintro m8 L9 w10 ⟨k4, rfl, hk11, hsz13, hl14, hl15, hl16, hf17, hf18, hf19, hI12⟩
      refine CW.sub (Sub.cons hl14 (Sub.cons hl15 (Sub.cons hl16 (Sub.nil _)))) ?_
      have hf19z := Ex.size hf19
      have hbg20 := RdS.big hf17
      rcases Nat.lt_or_ge k4 p_a.length with hlt21 | hlt21
      · skip
        refine CW.seq ?_
        refine CW.seq ?_
        refine CW.region ?_
        refine SeqR.d1 rfl rfl rfl (yl_move rfl rfl ?_)
        refine SeqR.d1 rfl rfl rfl (yl_move rfl rfl ?_)
        refine SeqR.d1 rfl rfl rfl (yl_len Try.un22 rfl rfl ?_)
        refine SeqR.d1 rfl rfl rfl (yl_lss rfl rfl rfl ?_)
        refine SeqR.done ?_
        refine tn ?_
        refine CW.cond_t rfl (lt_t hlt21) ?_
        refine CW.skip ?_
        refine tn ?_
        refine CW.seq ?_
        refine CW.block ?_
        refine CW.seq ?_
        obtain ⟨eb22, eo22, ec22, eA22, eS22, ebl22, el22, eR22, eC22⟩ := RdS.atD hf17 d_Str (i := k4) (by first | omega | assumption)
        obtain rfl := eR22
        have eC22 : Cells w10 eb22 (eo22 + k4 * 1) [.string (bs ((p_a.getD k4 d_Str)))] := eC22
        obtain ⟨eb23, eo23, ec23, eA23, eS23, ebl23, el23, eR23, eC23⟩ := RdS.atD hf18 d_Str (i := k4) (by first | omega | assumption)
        obtain rfl := eR23
        have eC23 : Cells w10 eb23 (eo23 + k4 * 1) [.string (bs ((p_b.getD k4 d_Str)))] := eC23
        refine CW.drawsI 9 (vgetI [DetI (.slice A1 p_a.length c1), DetI (.int .i64 ((k4 : Int))), DetI (.pointer (some ⟨eb22, eo22 + k4 * 1, none⟩)), DetI (.string (bs ((p_a.getD k4 d_Str)))), DetI (.slice A2 p_b.length c2), DetI (.int .i64 ((k4 : Int))), DetI (.pointer (some ⟨eb23, eo23 + k4 * 1, none⟩)), DetI (.string (bs ((p_b.getD k4 d_Str)))), DetI (.bool (!((p_a.getD k4 d_Str) == (p_b.getD k4 d_Str))))]) Try.follows rfl rfl rfl rfl rfl rfl (vgetI_stable ⟨StableI.det _, StableI.det _, StableI.det _, StableI.det _, StableI.det _, StableI.det _, StableI.det _, StableI.det _, StableI.det _, trivial⟩) ⟨?_, ?_, ?_, ?_, ?_, ?_, ?_, ?_, ?_, trivial⟩ ?_
        · intro L24 w25 hi26
          have hE27 := hi26.ex
          have hE27z := Ex.size hE27
          have hx28 := hi26.old 0 _ rfl rfl
          exact OpR.op' rfl (Yl.sameI (yl_move rfl hx28 ⟨fun _ _ => rfl, rfl⟩))
        · intro L29 w30 hi31
          have hE32 := hi31.ex
          have hE32z := Ex.size hE32
          have hx33 := hi31.old 5 _ rfl rfl
          exact OpR.op' rfl (Yl.sameI (yl_move rfl hx33 ⟨fun _ _ => rfl, rfl⟩))
        · intro L34 w35 hi36
          have hE37 := hi36.ex
          have hE37z := Ex.size hE37
          obtain ⟨_, _, _, hx38, -, -, -, rfl⟩ := hi36.dep 0 17 rfl rfl
          obtain ⟨_, _, _, hx39, -, -, -, rfl⟩ := hi36.dep 1 18 rfl rfl
          exact OpR.op' rfl (Yl.sameI (yl_indexAddrN Try.un22 Try.ty9 rfl hx38 hx39 eA22 (by first | omega | assumption | (simp only [IntKind.wrap_i64] at *; omega)) ⟨fun _ _ => rfl, rfl⟩))
        · intro L40 w41 hi42
          have hE43 := hi42.ex
          have hE43z := Ex.size hE43
          obtain ⟨_, _, _, hx44, -, -, -, rfl⟩ := hi42.dep 2 19 rfl rfl
          have q45 := Cells.ex eC22 hE43
          exact OpR.op' rfl (Yl.sameI (yl_load1 Try.ty9 rfl hx44 (q45 0 _ rfl) ⟨fun _ _ => rfl, rfl⟩))
        · intro L46 w47 hi48
          have hE49 := hi48.ex
          have hE49z := Ex.size hE49
          have hx50 := hi48.old 1 _ rfl rfl
          exact OpR.op' rfl (Yl.sameI (yl_move rfl hx50 ⟨fun _ _ => rfl, rfl⟩))
        · intro L51 w52 hi53
          have hE54 := hi53.ex
          have hE54z := Ex.size hE54
          have hx55 := hi53.old 5 _ rfl rfl
          exact OpR.op' rfl (Yl.sameI (yl_move rfl hx55 ⟨fun _ _ => rfl, rfl⟩))
        · intro L56 w57 hi58
          have hE59 := hi58.ex
          have hE59z := Ex.size hE59
          obtain ⟨_, _, _, hx60, -, -, -, rfl⟩ := hi58.dep 4 21 rfl rfl
          obtain ⟨_, _, _, hx61, -, -, -, rfl⟩ := hi58.dep 5 22 rfl rfl
          exact OpR.op' rfl (Yl.sameI (yl_indexAddrN Try.un22 Try.ty9 rfl hx60 hx61 eA23 (by first | omega | assumption | (simp only [IntKind.wrap_i64] at *; omega)) ⟨fun _ _ => rfl, rfl⟩))
        · intro L62 w63 hi64
          have hE65 := hi64.ex
          have hE65z := Ex.size hE65
          obtain ⟨_, _, _, hx66, -, -, -, rfl⟩ := hi64.dep 6 23 rfl rfl
          have q67 := Cells.ex eC23 hE65
          exact OpR.op' rfl (Yl.sameI (yl_load1 Try.ty9 rfl hx66 (q67 0 _ rfl) ⟨fun _ _ => rfl, rfl⟩))
        · intro L68 w69 hi70
          have hE71 := hi70.ex
          have hE71z := Ex.size hE71
          obtain ⟨_, _, _, hx72, -, -, -, rfl⟩ := hi70.dep 3 20 rfl rfl
          obtain ⟨_, _, _, hx73, -, -, -, rfl⟩ := hi70.dep 7 24 rfl rfl
          exact OpR.op' rfl (Yl.sameI (yl_sneq (a := (p_a.getD k4 d_Str)) (b := (p_b.getD k4 d_Str)) rfl hx72 hx73 ⟨fun _ _ => rfl, rfl⟩))
        · intro fl77 fh78 L74 w75 hp76
          have hE79 := hp76.ex
          have hE79z := Ex.size hE79
          have hx80 := hp76.old 0 _ rfl rfl
          have hx81 := hp76.old 1 _ rfl rfl
          have hx82 := hp76.old 5 _ rfl rfl
          obtain ⟨_, hx83, rfl⟩ := hp76.new 8 25 rfl rfl
          refine SeqR.done ?_
          refine tn ?_
          refine CW.sub (Sub.cons (d := 0) hx80 (Sub.cons (d := 1) hx81 (Sub.cons (d := 5) hx82 (Sub.cons (d := 25) hx83 (Sub.nil _))))) ?_
          refine bcase ((p_a.getD k4 d_Str) == (p_b.getD k4 d_Str)) (fun hb84 => ?_) (fun hb84 => ?_)
          · skip
            refine CW.cond_f rfl (not_t hb84) ?_
            refine CW.skip ?_
            refine bn ?_
            refine tn ?_
            refine CW.region ?_
            refine SeqR.d1 rfl rfl rfl (yl_move rfl rfl ?_)
            refine SeqR.d1 rfl rfl rfl (yl_inc rfl rfl rfl (by omega) ?_)
            refine SeqR.d1 rfl rfl rfl (yl_assign rfl rfl ?_)
            refine SeqR.done ?_
            refine tn ?_
            have hB85 : B_l_eqStringS_0 p_a p_b k4 () = .cont () := by simp only [B_l_eqStringS_0, hb3, hb84, cond_true, cond_false, loopE_done, loopE_ret]
            have q86 := RdS.ex good_Str hf17 hE79
            have q87 := RdS.ex good_Str hf18 hE79
            have q88 := Ex.trans hf19 hE79
            exact ⟨p_a.length - (k4 + 1), by omega, k4 + 1, rfl, hlt21, (by omega), rfl, rfl, rfl, q86, q87, q88, (loopM.cont hlt21 hB85).symm.trans hI12⟩
          · skip
            refine CW.cond_t rfl (not_f hb84) ?_
            refine CW.seq ?_
            refine CW.region ?_
            refine SeqR.d1 rfl rfl rfl (yl_assign rfl rfl ?_)
            refine SeqR.done ?_
            refine tn ?_
            refine CW.ret ?_
            refine br ?_
            refine tr ?_
            refine tr ?_
            have hB90 : B_l_eqStringS_0 p_a p_b k4 () = .ret false := by simp only [B_l_eqStringS_0, hb3, hb84, cond_true, cond_false, loopE_done, loopE_ret]
            have hL89 : loopM (B_l_eqStringS_0 p_a p_b) (p_a.length - 0) 0 () = .ret false := hI12.symm.trans (loopM.ret hlt21 hB90)
            refine br ?_
            refine tr ?_
            refine rr rfl (.cons rfl .nil) ?_
            have hM91 : (l_eqStringS p_a p_b) = (false) := by simp only [l_eqStringS, hb3, hb84, hL89, cond_true, cond_false, loopE_done, loopE_ret]
            rw [hM91]
            have q92 := Ex.trans hf19 hE79
            exact ⟨rfl, q92⟩
      · skip
        refine CW.seq ?_
        refine CW.seq ?_
        refine CW.region ?_
        refine SeqR.d1 rfl rfl rfl (yl_move rfl rfl ?_)
        refine SeqR.d1 rfl rfl rfl (yl_move rfl rfl ?_)
        refine SeqR.d1 rfl rfl rfl (yl_len Try.un22 rfl rfl ?_)
        refine SeqR.d1 rfl rfl rfl (yl_lss rfl rfl rfl ?_)
        refine SeqR.done ?_
        refine tn ?_
        refine CW.cond_f rfl (lt_f hlt21) ?_
        refine CW.exit ?_
        refine tx ?_
        refine tx ?_
        have hL93 : loopM (B_l_eqStringS_0 p_a p_b) (p_a.length - 0) 0 () = .done () := hI12.symm.trans (loopM.stop hlt21)
        refine bx ?_
        refine tn ?_
        refine CW.seq ?_
        refine CW.region ?_
        refine SeqR.d1 rfl rfl rfl (yl_assign rfl rfl ?_)
        refine SeqR.done ?_
        refine tn ?_
        refine CW.ret ?_
        refine rr rfl (.cons rfl .nil) ?_
        have hM94 : (l_eqStringS p_a p_b) = (true) := by simp only [l_eqStringS, hb3, hL93, cond_true, cond_false, loopE_done, loopE_ret]
        rw [hM94]
        exact ⟨rfl, hf19⟩
  · have hb3p := dec_f hb3
    refine CW.cond_t rfl (not_f hb3) ?_
    refine CW.seq ?_
    refine CW.region ?_
    refine SeqR.d1 rfl rfl rfl (yl_assign rfl rfl ?_)
    refine SeqR.done ?_
    refine tn ?_
    refine CW.ret ?_
    refine tr ?_
    refine rr rfl (.cons rfl .nil) ?_
    have hM95 : (l_eqStringS p_a p_b) = (false) := by simp only [l_eqStringS, hb3, cond_true, cond_false, loopE_done, loopE_ret]
    rw [hM95]
    exact ⟨rfl, (Ex.refl w)⟩
set_option maxRecDepth 100000 in
set_option maxHeartbeats 2000000 in
theorem c_l_eqIdx {w : World} (p_a : DIdx) (p_b : DIdx) : Cal Try.prog 145 #[.agg #[.string (bs (p_a.Name)), .int .i64 (p_a.Col), .int .i64 (p_a.Stage)], .agg #[.string (bs (p_b.Name)), .int .i64 (p_b.Col), .int .i64 (p_b.Stage)]] w fun v w' => v = .bool ((l_eqIdx p_a p_b)) ∧ Ex w w' := by
  refine Cal.of (vs := [.agg #[.string (bs (p_a.Name)), .int .i64 (p_a.Col), .int .i64 (p_a.Stage)], .agg #[.string (bs (p_b.Name)), .int .i64 (p_b.Col), .int .i64 (p_b.Stage)]]) Try.func145 rfl Try.ntmps145 rfl ?_
  refine CW.seq ?_
  refine CW.region ?_
  refine SeqR.d1 rfl rfl rfl (yl_box (cs := [.string (bs (p_a.Name)), .int .i64 (p_a.Col), .int .i64 (p_a.Stage)]) rfl rfl rfl ?_)
  intro b1 w2 hs3 hz4 hB5 hE6
  refine SeqR.d1 rfl rfl rfl (yl_box (cs := [.string (bs (p_b.Name)), .int .i64 (p_b.Col), .int .i64 (p_b.Stage)]) rfl rfl rfl ?_)
  intro b7 w8 hs9 hz10 hB11 hE12
  refine SeqR.d1 rfl rfl rfl (yl_assign rfl rfl ?_)
  refine SeqR.done ?_
  refine tn ?_
  refine CW.seq ?_
  refine CW.seq ?_
  refine CW.region ?_
  refine SeqR.d1 rfl rfl rfl (yl_fieldAddr Try.fd132_0 rfl rfl ?_)
  have q13 := Box.ex hB5 hE12
  refine SeqR.d1 rfl rfl rfl (yl_load1 Try.ty9 rfl rfl ((q13.cell 0).trans rfl) ?_)
  refine SeqR.d1 rfl rfl rfl (yl_fieldAddr Try.fd132_0 rfl rfl ?_)
  refine SeqR.d1 rfl rfl rfl (yl_load1 Try.ty9 rfl rfl ((hB11.cell 0).trans rfl) ?_)
  refine SeqR.d1 rfl rfl rfl (yl_sneq (a := p_a.Name) (b := p_b.Name) rfl rfl rfl ?_)
  refine SeqR.done ?_
  refine tn ?_
  refine bcase (p_a.Name == p_b.Name) (fun hb14 => ?_) (fun hb14 => ?_)
  · skip
    refine CW.cond_f rfl (not_t hb14) ?_
    refine CW.skip ?_
    refine tn ?_
    refine CW.seq ?_
    refine CW.seq ?_
    refine CW.region ?_
    refine SeqR.d1 rfl rfl rfl (yl_fieldAddr Try.fd132_1 rfl rfl ?_)
    refine SeqR.d1 rfl rfl rfl (yl_load1 Try.ty3 rfl rfl ((q13.cell 1).trans rfl) ?_)
    refine SeqR.d1 rfl rfl rfl (yl_fieldAddr Try.fd132_1 rfl rfl ?_)
    refine SeqR.d1 rfl rfl rfl (yl_load1 Try.ty3 rfl rfl ((hB11.cell 1).trans rfl) ?_)
    refine SeqR.d1 rfl rfl rfl (yl_neq rfl rfl rfl ?_)
    refine SeqR.done ?_
    refine tn ?_
    refine bcase (decide (p_a.Col = p_b.Col)) (fun hb15 => ?_) (fun hb15 => ?_)
    · have hb15p := dec_t hb15
      refine CW.cond_f rfl (not_t hb15) ?_
      refine CW.skip ?_
      refine tn ?_
      refine CW.seq ?_
      refine CW.seq ?_
      refine CW.region ?_
      refine SeqR.d1 rfl rfl rfl (yl_fieldAddr Try.fd132_2 rfl rfl ?_)
      refine SeqR.d1 rfl rfl rfl (yl_load1 Try.ty3 rfl rfl ((q13.cell 2).trans rfl) ?_)
      refine SeqR.d1 rfl rfl rfl (yl_fieldAddr Try.fd132_2 rfl rfl ?_)
      refine SeqR.d1 rfl rfl rfl (yl_load1 Try.ty3 rfl rfl ((hB11.cell 2).trans rfl) ?_)
      refine SeqR.d1 rfl rfl rfl (yl_neq rfl rfl rfl ?_)
      refine SeqR.done ?_
      refine tn ?_
      refine bcase (decide (p_a.Stage = p_b.Stage)) (fun hb16 => ?_) (fun hb16 => ?_)
      · have hb16p := dec_t hb16
        refine CW.cond_f rfl (not_t hb16) ?_
        refine CW.skip ?_
        refine tn ?_
        refine CW.seq ?_
        refine CW.region ?_
        refine SeqR.d1 rfl rfl rfl (yl_assign rfl rfl ?_)
        refine SeqR.done ?_
        refine tn ?_
        refine CW.ret ?_
        refine rr rfl (.cons rfl .nil) ?_
        have hM17 : (l_eqIdx p_a p_b) = (true) := by simp only [l_eqIdx, hb14, hb15, hb16, cond_true, cond_false, loopE_done, loopE_ret]
        rw [hM17]
        have q18 := Ex.trans (Ex.refl w) hE6
        have q19 := Ex.trans q18 hE12
        exact ⟨rfl, q19⟩
      · have hb16p := dec_f hb16
        refine CW.cond_t rfl (not_f hb16) ?_
        refine CW.seq ?_
        refine CW.region ?_
        refine SeqR.d1 rfl rfl rfl (yl_assign rfl rfl ?_)
        refine SeqR.done ?_
        refine tn ?_
        refine CW.ret ?_
        refine tr ?_
        refine rr rfl (.cons rfl .nil) ?_
        have hM20 : (l_eqIdx p_a p_b) = (false) := by simp only [l_eqIdx, hb14, hb15, hb16, cond_true, cond_false, loopE_done, loopE_ret]
        rw [hM20]
        have q21 := Ex.trans (Ex.refl w) hE6
        have q22 := Ex.trans q21 hE12
        exact ⟨rfl, q22⟩
    · have hb15p := dec_f hb15
      refine CW.cond_t rfl (not_f hb15) ?_
      refine CW.seq ?_
      refine CW.region ?_
      refine SeqR.d1 rfl rfl rfl (yl_assign rfl rfl ?_)
      refine SeqR.done ?_
      refine tn ?_
      refine CW.ret ?_
      refine tr ?_
      refine rr rfl (.cons rfl .nil) ?_
      have hM23 : (l_eqIdx p_a p_b) = (false) := by simp only [l_eqIdx, hb14, hb15, cond_true, cond_false, loopE_done, loopE_ret]
      rw [hM23]
      have q24 := Ex.trans (Ex.refl w) hE6
      have q25 := Ex.trans q24 hE12
      exact ⟨rfl, q25⟩
  · skip
    refine CW.cond_t rfl (not_f hb14) ?_
    refine CW.seq ?_
    refine CW.region ?_
    refine SeqR.d1 rfl rfl rfl (yl_assign rfl rfl ?_)
    refine SeqR.done ?_
    refine tn ?_
    refine CW.ret ?_
    refine tr ?_
    refine rr rfl (.cons rfl .nil) ?_
    have hM26 : (l_eqIdx p_a p_b) = (false) := by simp only [l_eqIdx, hb14, cond_true, cond_false, loopE_done, loopE_ret]
    rw [hM26]
    have q27 := Ex.trans (Ex.refl w) hE6
    have q28 := Ex.trans q27 hE12
    exact ⟨rfl, q28⟩
set_option maxRecDepth 100000 in
set_option maxHeartbeats 2000000 in
theorem c_l_eqIdxS {A1 : Option Addr} {c1 : Nat} {A2 : Option Addr} {c2 : Nat} {w : World} (p_a : List DIdx) (p_b : List DIdx) (h1 : RdS w (Iv 0 w.heap.size) (RF e_Idx) 3 A1 p_a.length c1 p_a) (h2 : RdS w (Iv 0 w.heap.size) (RF e_Idx) 3 A2 p_b.length c2 p_b) : Cal Try.prog 75 #[.slice A1 p_a.length c1, .slice A2 p_b.length c2] w fun v w' => v = .bool ((l_eqIdxS p_a p_b)) ∧ Ex w w' := by
  refine Cal.of (vs := [.slice A1 p_a.length c1, .slice A2 p_b.length c2]) Try.func75 rfl Try.ntmps75 rfl ?_
  refine CW.seq ?_
  refine CW.region ?_
  refine SeqR.d1 rfl rfl rfl (yl_assign rfl rfl ?_)
  refine SeqR.done ?_
  refine tn ?_
  refine CW.seq ?_
  refine CW.seq ?_
  refine CW.region ?_
  refine SeqR.d1 rfl rfl rfl (yl_move rfl rfl ?_)
  refine SeqR.d1 rfl rfl rfl (yl_len Try.un33 rfl rfl ?_)
  refine SeqR.d1 rfl rfl rfl (yl_move rfl rfl ?_)
  refine SeqR.d1 rfl rfl rfl (yl_len Try.un33 rfl rfl ?_)
  refine SeqR.d1 rfl rfl rfl (yl_neq rfl rfl rfl ?_)
  refine SeqR.done ?_
  refine tn ?_
  refine bcase (decide ((p_a.length : Int) = (p_b.length : Int))) (fun hb3 => ?_) (fun hb3 => ?_)
  · have hb3p := dec_t hb3
    refine CW.cond_f rfl (not_t hb3) ?_
    refine CW.skip ?_
    refine tn ?_
    refine CW.seq ?_
    refine CW.seq ?_
    refine CW.region ?_
    refine SeqR.d1 rfl rfl rfl (yl_assign rfl rfl ?_)
    refine SeqR.done ?_
    refine tn ?_
    refine CW.block ?_
    refine CW.loop (fun m5 L6 w7 => ∃ (k4 : Nat), m5 = p_a.length - k4 ∧ k4 ≤ p_a.length ∧ w.heap.size ≤ w7.heap.size ∧ lkp L6 0 = some (.slice A1 p_a.length c1) ∧ lkp L6 1 = some (.slice A2 p_b.length c2) ∧ lkp L6 5 = some (.int .i64 ((k4 : Int))) ∧ RdS w7 (Iv 0 w.heap.size) (RF e_Idx) 3 A1 p_a.length c1 p_a ∧ RdS w7 (Iv 0 w.heap.size) (RF e_Idx) 3 A2 p_b.length c2 p_b ∧ Ex w w7 ∧ loopM (B_l_eqIdxS_0 p_a p_b) (p_a.length - k4) k4 () = loopM (B_l_eqIdxS_0 p_a p_b) (p_a.length - 0) 0 ()) (p_a.length - 0) ?_ ?_
    · exact ⟨0, rfl, (by omega), Nat.le_refl _, rfl, rfl, rfl, h1, h2, (Ex.refl w), rfl⟩
    · rintro m8 L9 w10 ⟨k4, rfl, hk11, hsz13, hl14, hl15, hl16, hf17, hf18, hf19, hI12⟩
      refine CW.sub (Sub.cons hl14 (Sub.cons hl15 (Sub.cons hl16 (Sub.nil _)))) ?_
      have hf19z := Ex.size hf19
      have hbg20 := RdS.big hf17
      rcases Nat.lt_or_ge k4 p_a.length with hlt21 | hlt21
      · skip
        refine CW.seq ?_
        refine CW.seq ?_
        refine CW.region ?_
        refine SeqR.d1 rfl rfl rfl (yl_move rfl rfl ?_)
        refine SeqR.d1 rfl rfl rfl (yl_move rfl rfl ?_)
        refine SeqR.d1 rfl rfl rfl (yl_len Try.un33 rfl rfl ?_)
        refine SeqR.d1 rfl rfl rfl (yl_lss rfl rfl rfl ?_)
        refine SeqR.done ?_
        refine tn ?_
        refine CW.cond_t rfl (lt_t hlt21) ?_
        refine CW.skip ?_
        refine tn ?_
        refine CW.seq ?_
        refine CW.block ?_
        refine CW.seq ?_
        obtain ⟨eb22, eo22, ec22, eA22, eS22, ebl22, el22, eR22, eC22⟩ := RdS.atD hf17 d_Idx (i := k4) (by first | omega | assumption)
        obtain rfl := eR22
        have eC22 : Cells w10 eb22 (eo22 + k4 * 3) [.string (bs ((p_a.getD k4 d_Idx).Name)), .int .i64 ((p_a.getD k4 d_Idx).Col), .int .i64 ((p_a.getD k4 d_Idx).Stage)] := eC22
        obtain ⟨eb23, eo23, ec23, eA23, eS23, ebl23, el23, eR23, eC23⟩ := RdS.atD hf18 d_Idx (i := k4) (by first | omega | assumption)
        obtain rfl := eR23
        have eC23 : Cells w10 eb23 (eo23 + k4 * 3) [.string (bs ((p_b.getD k4 d_Idx).Name)), .int .i64 ((p_b.getD k4 d_Idx).Col), .int .i64 ((p_b.getD k4 d_Idx).Stage)] := eC23
        refine CW.drawsI 10 (vgetI [DetI (.slice A1 p_a.length c1), DetI (.int .i64 ((k4 : Int))), DetI (.pointer (some ⟨eb22, eo22 + k4 * 3, none⟩)), DetI (.agg #[.string (bs ((p_a.getD k4 d_Idx).Name)), .int .i64 ((p_a.getD k4 d_Idx).Col), .int .i64 ((p_a.getD k4 d_Idx).Stage)]), DetI (.slice A2 p_b.length c2), DetI (.int .i64 ((k4 : Int))), DetI (.pointer (some ⟨eb23, eo23 + k4 * 3, none⟩)), DetI (.agg #[.string (bs ((p_b.getD k4 d_Idx).Name)), .int .i64 ((p_b.getD k4 d_Idx).Col), .int .i64 ((p_b.getD k4 d_Idx).Stage)]), DetI (.bool ((l_eqIdx (p_a.getD k4 d_Idx) (p_b.getD k4 d_Idx)))), DetI (.bool (!(l_eqIdx (p_a.getD k4 d_Idx) (p_b.getD k4 d_Idx))))]) Try.follows rfl rfl rfl rfl rfl rfl (vgetI_stable ⟨StableI.det _, StableI.det _, StableI.det _, StableI.det _, StableI.det _, StableI.det _, StableI.det _, StableI.det _, StableI.det _, StableI.det _, trivial⟩) ⟨?_, ?_, ?_, ?_, ?_, ?_, ?_, ?_, ?_, ?_, trivial⟩ ?_
        · intro L25 w26 hi27
          have hE28 := hi27.ex
          have hE28z := Ex.size hE28
          have hx29 := hi27.old 0 _ rfl rfl
          exact OpR.op' rfl (Yl.sameI (yl_move rfl hx29 ⟨fun _ _ => rfl, rfl⟩))
        · intro L30 w31 hi32
          have hE33 := hi32.ex
          have hE33z := Ex.size hE33
          have hx34 := hi32.old 5 _ rfl rfl
          exact OpR.op' rfl (Yl.sameI (yl_move rfl hx34 ⟨fun _ _ => rfl, rfl⟩))
        · intro L35 w36 hi37
          have hE38 := hi37.ex
          have hE38z := Ex.size hE38
          obtain ⟨_, _, _, hx39, -, -, -, rfl⟩ := hi37.dep 0 17 rfl rfl
          obtain ⟨_, _, _, hx40, -, -, -, rfl⟩ := hi37.dep 1 18 rfl rfl
          exact OpR.op' rfl (Yl.sameI (yl_indexAddrN Try.un33 Try.ty132 rfl hx39 hx40 eA22 (by first | omega | assumption | (simp only [IntKind.wrap_i64] at *; omega)) ⟨fun _ _ => rfl, rfl⟩))
        · intro L41 w42 hi43
          have hE44 := hi43.ex
          have hE44z := Ex.size hE44
          obtain ⟨_, _, _, hx45, -, -, -, rfl⟩ := hi43.dep 2 19 rfl rfl
          have q46 := Cells.ex eC22 hE44
          exact OpR.op' rfl (Yl.sameI (yl_loadN (cs := [.string (bs ((p_a.getD k4 d_Idx).Name)), .int .i64 ((p_a.getD k4 d_Idx).Col), .int .i64 ((p_a.getD k4 d_Idx).Stage)]) Try.ty132 rfl hx45 q46 rfl ⟨fun _ _ => rfl, rfl⟩))
        · intro L47 w48 hi49
          have hE50 := hi49.ex
          have hE50z := Ex.size hE50
          have hx51 := hi49.old 1 _ rfl rfl
          exact OpR.op' rfl (Yl.sameI (yl_move rfl hx51 ⟨fun _ _ => rfl, rfl⟩))
        · intro L52 w53 hi54
          have hE55 := hi54.ex
          have hE55z := Ex.size hE55
          have hx56 := hi54.old 5 _ rfl rfl
          exact OpR.op' rfl (Yl.sameI (yl_move rfl hx56 ⟨fun _ _ => rfl, rfl⟩))
        · intro L57 w58 hi59
          have hE60 := hi59.ex
          have hE60z := Ex.size hE60
          obtain ⟨_, _, _, hx61, -, -, -, rfl⟩ := hi59.dep 4 21 rfl rfl
          obtain ⟨_, _, _, hx62, -, -, -, rfl⟩ := hi59.dep 5 22 rfl rfl
          exact OpR.op' rfl (Yl.sameI (yl_indexAddrN Try.un33 Try.ty132 rfl hx61 hx62 eA23 (by first | omega | assumption | (simp only [IntKind.wrap_i64] at *; omega)) ⟨fun _ _ => rfl, rfl⟩))
        · intro L63 w64 hi65
          have hE66 := hi65.ex
          have hE66z := Ex.size hE66
          obtain ⟨_, _, _, hx67, -, -, -, rfl⟩ := hi65.dep 6 23 rfl rfl
          have q68 := Cells.ex eC23 hE66
          exact OpR.op' rfl (Yl.sameI (yl_loadN (cs := [.string (bs ((p_b.getD k4 d_Idx).Name)), .int .i64 ((p_b.getD k4 d_Idx).Col), .int .i64 ((p_b.getD k4 d_Idx).Stage)]) Try.ty132 rfl hx67 q68 rfl ⟨fun _ _ => rfl, rfl⟩))
        · intro L69 w70 hi71
          have hE72 := hi71.ex
          have hE72z := Ex.size hE72
          obtain ⟨_, _, _, hx73, -, -, -, rfl⟩ := hi71.dep 3 20 rfl rfl
          obtain ⟨_, _, _, hx74, -, -, -, rfl⟩ := hi71.dep 7 24 rfl rfl
          refine OpR.op' rfl (yl_call Try.en145 rfl (opvs_cons hx73 (opvs_cons hx74 opvs_nil)) (Cal.mono (c_l_eqIdx (p_a.getD k4 d_Idx) (p_b.getD k4 d_Idx)) ?_))
          rintro v76 w75 ⟨rfl, hE77⟩
          exact ⟨rfl, hE77⟩
        · intro L78 w79 hi80
          have hE81 := hi80.ex
          have hE81z := Ex.size hE81
          obtain ⟨_, _, _, hx82, -, -, -, rfl⟩ := hi80.dep 8 25 rfl rfl
          exact OpR.op' rfl (Yl.sameI (yl_not rfl hx82 ⟨fun _ _ => rfl, rfl⟩))
        · intro fl86 fh87 L83 w84 hp85
          have hE88 := hp85.ex
          have hE88z := Ex.size hE88
          have hx89 := hp85.old 0 _ rfl rfl
          have hx90 := hp85.old 1 _ rfl rfl
          have hx91 := hp85.old 5 _ rfl rfl
          obtain ⟨_, hx92, rfl⟩ := hp85.new 9 26 rfl rfl
          refine SeqR.done ?_
          refine tn ?_
          refine CW.sub (Sub.cons (d := 0) hx89 (Sub.cons (d := 1) hx90 (Sub.cons (d := 5) hx91 (Sub.cons (d := 26) hx92 (Sub.nil _))))) ?_
          refine bcase (l_eqIdx (p_a.getD k4 d_Idx) (p_b.getD k4 d_Idx)) (fun hb93 => ?_) (fun hb93 => ?_)
          · skip
            refine CW.cond_f rfl (not_t hb93) ?_
            refine CW.skip ?_
            refine bn ?_
            refine tn ?_
            refine CW.region ?_
            refine SeqR.d1 rfl rfl rfl (yl_move rfl rfl ?_)
            refine SeqR.d1 rfl rfl rfl (yl_inc rfl rfl rfl (by omega) ?_)
            refine SeqR.d1 rfl rfl rfl (yl_assign rfl rfl ?_)
            refine SeqR.done ?_
            refine tn ?_
            have hB94 : B_l_eqIdxS_0 p_a p_b k4 () = .cont () := by simp only [B_l_eqIdxS_0, hb3, hb93, cond_true, cond_false, loopE_done, loopE_ret]
            have q95 := RdS.ex good_Idx hf17 hE88
            have q96 := RdS.ex good_Idx hf18 hE88
            have q97 := Ex.trans hf19 hE88
            exact ⟨p_a.length - (k4 + 1), by omega, k4 + 1, rfl, hlt21, (by omega), rfl, rfl, rfl, q95, q96, q97, (loopM.cont hlt21 hB94).symm.trans hI12⟩
          · skip
            refine CW.cond_t rfl (not_f hb93) ?_
            refine CW.seq ?_
            refine CW.region ?_
            refine SeqR.d1 rfl rfl rfl (yl_assign rfl rfl ?_)
            refine SeqR.done ?_
            refine tn ?_
            refine CW.ret ?_
            refine br ?_
            refine tr ?_
            refine tr ?_
            have hB99 : B_l_eqIdxS_0 p_a p_b k4 () = .ret false := by simp only [B_l_eqIdxS_0, hb3, hb93, cond_true, cond_false, loopE_done, loopE_ret]
            have hL98 : loopM (B_l_eqIdxS_0 p_a p_b) (p_a.length - 0) 0 () = .ret false := hI12.symm.trans (loopM.ret hlt21 hB99)
            refine br ?_
            refine tr ?_
            refine rr rfl (.cons rfl .nil) ?_
            have hM100 : (l_eqIdxS p_a p_b) = (false) := by simp only [l_eqIdxS, hb3, hb93, hL98, cond_true, cond_false, loopE_done, loopE_ret]
            rw [hM100]
            have q101 := Ex.trans hf19 hE88
            exact ⟨rfl, q101⟩
      · skip
        refine CW.seq ?_
        refine CW.seq ?_
        refine CW.region ?_
        refine SeqR.d1 rfl rfl rfl (yl_move rfl rfl ?_)
        refine SeqR.d1 rfl rfl rfl (yl_move rfl rfl ?_)
        refine SeqR.d1 rfl rfl rfl (yl_len Try.un33 rfl rfl ?_)
        refine SeqR.d1 rfl rfl rfl (yl_lss rfl rfl rfl ?_)
        refine SeqR.done ?_
        refine tn ?_
        refine CW.cond_f rfl (lt_f hlt21) ?_
        refine CW.exit ?_
        refine tx ?_
        refine tx ?_
        have hL102 : loopM (B_l_eqIdxS_0 p_a p_b) (p_a.length - 0) 0 () = .done () := hI12.symm.trans (loopM.stop hlt21)
        refine bx ?_
        refine tn ?_
        refine CW.seq ?_
        refine CW.region ?_
        refine SeqR.d1 rfl rfl rfl (yl_assign rfl rfl ?_)
        refine SeqR.done ?_
        refine tn ?_
        refine CW.ret ?_
        refine rr rfl (.cons rfl .nil) ?_
        have hM103 : (l_eqIdxS p_a p_b) = (true) := by simp only [l_eqIdxS, hb3, hL102, cond_true, cond_false, loopE_done, loopE_ret]
        rw [hM103]
        exact ⟨rfl, hf19⟩
  · have hb3p := dec_f hb3
    refine CW.cond_t rfl (not_f hb3) ?_
    refine CW.seq ?_
    refine CW.region ?_
    refine SeqR.d1 rfl rfl rfl (yl_assign rfl rfl ?_)
    refine SeqR.done ?_
    refine tn ?_
    refine CW.ret ?_
    refine tr ?_
    refine rr rfl (.cons rfl .nil) ?_
    have hM104 : (l_eqIdxS p_a p_b) = (false) := by simp only [l_eqIdxS, hb3, cond_true, cond_false, loopE_done, loopE_ret]
    rw [hM104]
    exact ⟨rfl, (Ex.refl w)⟩
set_option maxRecDepth 100000 in
set_option maxHeartbeats 2000000 in
theorem c_l_eqTable {A1 : Option Addr} {c1 : Nat} {A2 : Option Addr} {c2 : Nat} {A3 : Option Addr} {c3 : Nat} {A4 : Option Addr} {c4 : Nat} {w : World} (p_a : DTable) (p_b : DTable) (h1 : RdS w (Iv 0 w.heap.size) (RF e_Str) 1 A1 p_a.Cols.length c1 p_a.Cols) (h2 : RdS w (Iv 0 w.heap.size) (RF e_Idx) 3 A2 p_a.Idxs.length c2 p_a.Idxs) (h3 : RdS w (Iv 0 w.heap.size) (RF e_Str) 1 A3 p_b.Cols.length c3 p_b.Cols) (h4 : RdS w (Iv 0 w.heap.size) (RF e_Idx) 3 A4 p_b.Idxs.length c4 p_b.Idxs) : Cal Try.prog 20 #[.agg #[.string (bs (p_a.Name)), .slice A1 p_a.Cols.length c1, .slice A2 p_a.Idxs.length c2], .agg #[.string (bs (p_b.Name)), .slice A3 p_b.Cols.length c3, .slice A4 p_b.Idxs.length c4]] w fun v w' => v = .bool ((l_eqTable p_a p_b)) ∧ Ex w w' := by
  refine Cal.of (vs := [.agg #[.string (bs (p_a.Name)), .slice A1 p_a.Cols.length c1, .slice A2 p_a.Idxs.length c2], .agg #[.string (bs (p_b.Name)), .slice A3 p_b.Cols.length c3, .slice A4 p_b.Idxs.length c4]]) Try.func20 rfl Try.ntmps20 rfl ?_
  refine CW.seq ?_
  refine CW.region ?_
  refine SeqR.d1 rfl rfl rfl (yl_box (cs := [.string (bs (p_a.Name)), .slice A1 p_a.Cols.length c1, .slice A2 p_a.Idxs.length c2]) rfl rfl rfl ?_)
  intro b5 w6 hs7 hz8 hB9 hE10
  refine SeqR.d1 rfl rfl rfl (yl_box (cs := [.string (bs (p_b.Name)), .slice A3 p_b.Cols.length c3, .slice A4 p_b.Idxs.length c4]) rfl rfl rfl ?_)
  intro b11 w12 hs13 hz14 hB15 hE16
  refine SeqR.d1 rfl rfl rfl (yl_assign rfl rfl ?_)
  refine SeqR.done ?_
  refine tn ?_
  refine CW.seq ?_
  refine CW.seq ?_
  refine CW.region ?_
  refine SeqR.d1 rfl rfl rfl (yl_fieldAddr Try.fd35_0 rfl rfl ?_)
  have q17 := Box.ex hB9 hE16
  refine SeqR.d1 rfl rfl rfl (yl_load1 Try.ty9 rfl rfl ((q17.cell 0).trans rfl) ?_)
  refine SeqR.d1 rfl rfl rfl (yl_fieldAddr Try.fd35_0 rfl rfl ?_)
  refine SeqR.d1 rfl rfl rfl (yl_load1 Try.ty9 rfl rfl ((hB15.cell 0).trans rfl) ?_)
  refine SeqR.d1 rfl rfl rfl (yl_sneq (a := p_a.Name) (b := p_b.Name) rfl rfl rfl ?_)
  refine SeqR.done ?_
  refine tn ?_
  refine bcase (p_a.Name == p_b.Name) (fun hb18 => ?_) (fun hb18 => ?_)
  · skip
    refine CW.cond_f rfl (not_t hb18) ?_
    refine CW.skip ?_
    refine tn ?_
    refine CW.seq ?_
    refine CW.seq ?_
    refine CW.region ?_
    refine SeqR.d1 rfl rfl rfl (yl_fieldAddr Try.fd35_1 rfl rfl ?_)
    refine SeqR.d1 rfl rfl rfl (yl_load1 Try.ty22 rfl rfl ((q17.cell 1).trans rfl) ?_)
    refine SeqR.d1 rfl rfl rfl (yl_fieldAddr Try.fd35_1 rfl rfl ?_)
    refine SeqR.d1 rfl rfl rfl (yl_load1 Try.ty22 rfl rfl ((hB15.cell 1).trans rfl) ?_)
    have q19 := RdS.ex good_Str h1 hE10
    have q20 := RdS.ex good_Str q19 hE16
    have q21 := RdS.ex good_Str h3 hE10
    have q22 := RdS.ex good_Str q21 hE16
    refine SeqR.d1 rfl rfl rfl (yl_call Try.en74 rfl (opvs_cons rfl (opvs_cons rfl opvs_nil)) (Cal.mono (c_l_eqStringS p_a.Cols p_b.Cols (RdS.up q20 good_Str) (RdS.up q22 good_Str)) ?_))
    rintro v24 w23 ⟨rfl, hE25⟩
    have hE25z := Ex.size hE25
    refine SeqR.d1 rfl rfl rfl (yl_not rfl rfl ?_)
    refine SeqR.done ?_
    refine tn ?_
    refine bcase (l_eqStringS p_a.Cols p_b.Cols) (fun hb26 => ?_) (fun hb26 => ?_)
    · skip
      refine CW.cond_f rfl (not_t hb26) ?_
      refine CW.skip ?_
      refine tn ?_
      refine CW.seq ?_
      refine CW.seq ?_
      refine CW.region ?_
      refine SeqR.d1 rfl rfl rfl (yl_fieldAddr Try.fd35_2 rfl rfl ?_)
      have q27 := Box.ex q17 hE25
      refine SeqR.d1 rfl rfl rfl (yl_load1 Try.ty33 rfl rfl ((q27.cell 2).trans rfl) ?_)
      refine SeqR.d1 rfl rfl rfl (yl_fieldAddr Try.fd35_2 rfl rfl ?_)
      have q28 := Box.ex hB15 hE25
      refine SeqR.d1 rfl rfl rfl (yl_load1 Try.ty33 rfl rfl ((q28.cell 2).trans rfl) ?_)
      have q29 := RdS.ex good_Idx h2 hE10
      have q30 := RdS.ex good_Idx q29 hE16
      have q31 := RdS.ex good_Idx q30 hE25
      have q32 := RdS.ex good_Idx h4 hE10
      have q33 := RdS.ex good_Idx q32 hE16
      have q34 := RdS.ex good_Idx q33 hE25
      refine SeqR.d1 rfl rfl rfl (yl_call Try.en75 rfl (opvs_cons rfl (opvs_cons rfl opvs_nil)) (Cal.mono (c_l_eqIdxS p_a.Idxs p_b.Idxs (RdS.up q31 good_Idx) (RdS.up q34 good_Idx)) ?_))
      rintro v36 w35 ⟨rfl, hE37⟩
      have hE37z := Ex.size hE37
      refine SeqR.d1 rfl rfl rfl (yl_not rfl rfl ?_)
      refine SeqR.done ?_
      refine tn ?_
      refine bcase (l_eqIdxS p_a.Idxs p_b.Idxs) (fun hb38 => ?_) (fun hb38 => ?_)
      · skip
        refine CW.cond_f rfl (not_t hb38) ?_
        refine CW.skip ?_
        refine tn ?_
        refine CW.seq ?_
        refine CW.region ?_
        refine SeqR.d1 rfl rfl rfl (yl_assign rfl rfl ?_)
        refine SeqR.done ?_
        refine tn ?_
        refine CW.ret ?_
        refine rr rfl (.cons rfl .nil) ?_
        have hM39 : (l_eqTable p_a p_b) = (true) := by simp only [l_eqTable, hb18, hb26, hb38, cond_true, cond_false, loopE_done, loopE_ret]
        rw [hM39]
        have q40 := Ex.trans (Ex.refl w) hE10
        have q41 := Ex.trans q40 hE16
        have q42 := Ex.trans q41 hE25
        have q43 := Ex.trans q42 hE37
        exact ⟨rfl, q43⟩
      · skip
        refine CW.cond_t rfl (not_f hb38) ?_
        refine CW.seq ?_
        refine CW.region ?_
        refine SeqR.d1 rfl rfl rfl (yl_assign rfl rfl ?_)
        refine SeqR.done ?_
        refine tn ?_
        refine CW.ret ?_
        refine tr ?_
        refine rr rfl (.cons rfl .nil) ?_
        have hM44 : (l_eqTable p_a p_b) = (false) := by simp only [l_eqTable, hb18, hb26, hb38, cond_true, cond_false, loopE_done, loopE_ret]
        rw [hM44]
        have q45 := Ex.trans (Ex.refl w) hE10
        have q46 := Ex.trans q45 hE16
        have q47 := Ex.trans q46 hE25
        have q48 := Ex.trans q47 hE37
        exact ⟨rfl, q48⟩
    · skip
      refine CW.cond_t rfl (not_f hb26) ?_
      refine CW.seq ?_
      refine CW.region ?_
      refine SeqR.d1 rfl rfl rfl (yl_assign rfl rfl ?_)
      refine SeqR.done ?_
      refine tn ?_
      refine CW.ret ?_
      refine tr ?_
      refine rr rfl (.cons rfl .nil) ?_
      have hM49 : (l_eqTable p_a p_b) = (false) := by simp only [l_eqTable, hb18, hb26, cond_true, cond_false, loopE_done, loopE_ret]
      rw [hM49]
      have q50 := Ex.trans (Ex.refl w) hE10
      have q51 := Ex.trans q50 hE16
      have q52 := Ex.trans q51 hE25
      exact ⟨rfl, q52⟩
  · skip
    refine CW.cond_t rfl (not_f hb18) ?_
    refine CW.seq ?_
    refine CW.region ?_
    refine SeqR.d1 rfl rfl rfl (yl_assign rfl rfl ?_)
    refine SeqR.done ?_
    refine tn ?_
    refine CW.ret ?_
    refine tr ?_
    refine rr rfl (.cons rfl .nil) ?_
    have hM53 : (l_eqTable p_a p_b) = (false) := by simp only [l_eqTable, hb18, cond_true, cond_false, loopE_done, loopE_ret]
    rw [hM53]
    have q54 := Ex.trans (Ex.refl w) hE10
    have q55 := Ex.trans q54 hE16
    exact ⟨rfl, q55⟩
set_option maxRecDepth 100000 in
set_option maxHeartbeats 2000000 in
theorem c_l_szRow {A1 : Option Addr} {c1 : Nat} {w : World} (p_a : DRow) (p_left : Int) (h1 : RdS w (Iv 0 w.heap.size) (RF e_Str) 1 A1 p_a.Vals.length c1 p_a.Vals) : Cal Try.prog 32 #[.agg #[.slice A1 p_a.Vals.length c1], .int .i64 (p_left)] w fun v w' => v = .int .i64 ((l_szRow p_a p_left)) ∧ Ex w w' := by
  refine Cal.of (vs := [.agg #[.slice A1 p_a.Vals.length c1], .int .i64 (p_left)]) Try.func32 rfl Try.ntmps32 rfl ?_
  refine CW.seq ?_
  refine CW.region ?_
  refine SeqR.d1 rfl rfl rfl (yl_box (cs := [.slice A1 p_a.Vals.length c1]) rfl rfl rfl ?_)
  intro b2 w3 hs4 hz5 hB6 hE7
  refine SeqR.d1 rfl rfl rfl (yl_assign rfl rfl ?_)
  refine SeqR.done ?_
  refine tn ?_
  refine CW.seq ?_
  refine CW.region ?_
  refine SeqR.d1 rfl rfl rfl (yl_fieldAddr Try.fd27_0 rfl rfl ?_)
  refine SeqR.d1 rfl rfl rfl (yl_load1 Try.ty22 rfl rfl ((hB6.cell 0).trans rfl) ?_)
  refine SeqR.d1 rfl rfl rfl (yl_move rfl rfl ?_)
  have q8 := RdS.ex good_Str h1 hE7
  refine SeqR.d1 rfl rfl rfl (yl_call Try.en66 rfl (opvs_cons rfl (opvs_cons rfl opvs_nil)) (Cal.mono (c_l_szStringS p_a.Vals p_left (RdS.up q8 good_Str)) ?_))
  rintro v10 w9 ⟨rfl, hE11⟩
  have hE11z := Ex.size hE11
  refine SeqR.d1 rfl rfl rfl (yl_assign rfl rfl ?_)
  refine SeqR.done ?_
  refine tn ?_
  refine CW.seq ?_
  refine CW.seq ?_
  refine CW.region ?_
  refine SeqR.d1 rfl rfl rfl (yl_move rfl rfl ?_)
  refine SeqR.d1 rfl rfl rfl (yl_lss rfl rfl rfl ?_)
  refine SeqR.done ?_
  refine tn ?_
  refine bcase (decide ((l_szStringS p_a.Vals p_left) < 0)) (fun hb12 => ?_) (fun hb12 => ?_)
  · have hb12p := dec_t hb12
    refine CW.cond_t rfl hb12 ?_
    refine CW.seq ?_
    refine CW.region ?_
    refine SeqR.d1 rfl rfl rfl (yl_assign rfl rfl ?_)
    refine SeqR.done ?_
    refine tn ?_
    refine CW.ret ?_
    refine tr ?_
    refine rr rfl (.cons rfl .nil) ?_
    have hM13 : (l_szRow p_a p_left) = (-1) := by simp only [l_szRow, hb12, cond_true, cond_false, loopE_done, loopE_ret]
    rw [hM13]
    have q14 := Ex.trans (Ex.refl w) hE7
    have q15 := Ex.trans q14 hE11
    exact ⟨rfl, q15⟩
  · have hb12p := dec_f hb12
    refine CW.cond_f rfl hb12 ?_
    refine CW.skip ?_
    refine tn ?_
    refine CW.seq ?_
    refine CW.region ?_
    refine SeqR.d1 rfl rfl rfl (yl_move rfl rfl ?_)
    refine SeqR.d1 rfl rfl rfl (yl_assign rfl rfl ?_)
    refine SeqR.done ?_
    refine tn ?_
    refine CW.ret ?_
    refine rr rfl (.cons rfl .nil) ?_
    have hM16 : (l_szRow p_a p_left) = ((l_szStringS p_a.Vals p_left)) := by simp only [l_szRow, hb12, cond_true, cond_false, loopE_done, loopE_ret]
    rw [hM16]
    have q17 := Ex.trans (Ex.refl w) hE7
    have q18 := Ex.trans q17 hE11
    exact ⟨rfl, q18⟩
set_option maxRecDepth 100000 in
set_option maxHeartbeats 2000000 in
theorem c_s_l1In {w : World} (p_n : Int) (p_lo : Int) (p_hi : Int) : Cal Try.prog 124 #[.int .i64 (p_n), .int .i64 (p_lo), .int .i64 (p_hi)] w fun v w' => v = .bool ((s_l1In p_n p_lo p_hi)) ∧ Ex w w' := by
  refine Cal.of (vs := [.int .i64 (p_n), .int .i64 (p_lo), .int .i64 (p_hi)]) Try.func124 rfl Try.ntmps124 rfl ?_
  refine CW.seq ?_
  refine CW.region ?_
  refine SeqR.d1 rfl rfl rfl (yl_assign rfl rfl ?_)
  refine SeqR.done ?_
  refine tn ?_
  refine CW.seq ?_
  refine CW.region ?_
  refine SeqR.d1 rfl rfl rfl (yl_move rfl rfl ?_)
  refine SeqR.d1 rfl rfl rfl (yl_move rfl rfl ?_)
  refine SeqR.d1 rfl rfl rfl (yl_geq rfl rfl rfl ?_)
  refine SeqR.d1 rfl rfl rfl (yl_move rfl rfl ?_)
  refine bcase (decide (p_lo ≤ p_n)) (fun hb1 => ?_) (fun hb1 => ?_)
  · have hb1p := dec_t hb1
    refine SeqR.y rfl rfl rfl rfl rfl hb1 (yl_move rfl rfl ?_)
    refine SeqR.y rfl rfl rfl rfl rfl hb1 (yl_move rfl rfl ?_)
    refine SeqR.y rfl rfl rfl rfl rfl hb1 (yl_leq rfl rfl rfl ?_)
    refine SeqR.d1 rfl rfl rfl (yl_pick_t rfl rfl hb1 rfl ?_)
    refine SeqR.d1 rfl rfl rfl (yl_assign rfl rfl ?_)
    refine SeqR.done ?_
    refine tn ?_
    refine CW.ret ?_
    refine rr rfl (.cons rfl .nil) ?_
    have hM2 : (s_l1In p_n p_lo p_hi) = (decide (p_n ≤ p_hi)) := by simp only [s_l1In, hb1, cond_true, cond_false, loopE_done, loopE_ret]
    rw [hM2]
    exact ⟨rfl, (Ex.refl w)⟩
  · have hb1p := dec_f hb1
    refine SeqR.z rfl rfl rfl rfl rfl hb1 ?_
    refine SeqR.z rfl rfl rfl rfl rfl hb1 ?_
    refine SeqR.z rfl rfl rfl rfl rfl hb1 ?_
    refine SeqR.d1 rfl rfl rfl (yl_pick_f rfl rfl hb1 rfl ?_)
    refine SeqR.d1 rfl rfl rfl (yl_assign rfl rfl ?_)
    refine SeqR.done ?_
    refine tn ?_
    refine CW.ret ?_
    refine rr rfl (.cons rfl .nil) ?_
    have hM3 : (s_l1In p_n p_lo p_hi) = (false) := by simp only [s_l1In, hb1, cond_true, cond_false, loopE_done, loopE_ret]
    rw [hM3]
    exact ⟨rfl, (Ex.refl w)⟩
set_option maxRecDepth 100000 in
set_option maxHeartbeats 2000000 in
theorem c_s_l24Letters {w : World} (p_s : Str) (p_most : Int) (o1 : okS p_s) : Cal Try.prog 139 #[.string (bs (p_s)), .int .i64 (p_most)] w fun v w' => v = .bool ((s_l24Letters p_s p_most)) ∧ Ex w w' := by
  have hol2 : p_s.length ≤ 1073741824 := o1
  refine Cal.of (vs := [.string (bs (p_s)), .int .i64 (p_most)]) Try.func139 rfl Try.ntmps139 rfl ?_
  refine CW.seq ?_
  refine CW.region ?_
  refine SeqR.d1 rfl rfl rfl (yl_assign rfl rfl ?_)
  refine SeqR.done ?_
  refine tn ?_
  refine CW.seq ?_
  refine CW.seq ?_
  refine CW.region ?_
  refine SeqR.d1 rfl rfl rfl (yl_assign rfl rfl ?_)
  refine SeqR.done ?_
  refine tn ?_
  refine CW.block ?_
  refine CW.loop (fun m4 L5 w6 => ∃ (k3 : Nat), m4 = p_s.length - k3 ∧ k3 ≤ p_s.length ∧ w.heap.size ≤ w6.heap.size ∧ lkp L5 0 = some (.string (bs (p_s))) ∧ lkp L5 1 = some (.int .i64 (p_most)) ∧ lkp L5 5 = some (.int .i64 ((k3 : Int))) ∧ Ex w w6 ∧ loopM (B_s_l24Letters_0 p_s p_most) (p_s.length - k3) k3 () = loopM (B_s_l24Letters_0 p_s p_most) (p_s.length - 0) 0 ()) (p_s.length - 0) ?_ ?_
  · exact ⟨0, rfl, (by omega), Nat.le_refl _, rfl, rfl, rfl, (Ex.refl w), rfl⟩
  · rintro m7 L8 w9 ⟨k3, rfl, hk10, hsz12, hl13, hl14, hl15, hf16, hI11⟩
    refine CW.sub (Sub.cons hl13 (Sub.cons hl14 (Sub.cons hl15 (Sub.nil _)))) ?_
    have hf16z := Ex.size hf16
    have hbg17 : p_s.length ≤ 1073741824 := o1
    rcases Nat.lt_or_ge k3 p_s.length with hlt18 | hlt18
    · skip
      refine CW.seq ?_
      refine CW.seq ?_
      refine CW.region ?_
      refine SeqR.d1 rfl rfl rfl (yl_move rfl rfl ?_)
      refine SeqR.d1 rfl rfl rfl (yl_move rfl rfl ?_)
      refine SeqR.d1 rfl rfl rfl (yl_slen Try.un9 (a := p_s) rfl rfl ?_)
      refine SeqR.d1 rfl rfl rfl (yl_lss rfl rfl rfl ?_)
      refine SeqR.done ?_
      refine tn ?_
      refine CW.cond_t rfl (lt_t hlt18) ?_
      refine CW.skip ?_
      refine tn ?_
      refine CW.seq ?_
      refine CW.block ?_
      refine CW.seq ?_
      refine CW.region ?_
      refine SeqR.d1 rfl rfl rfl (yl_move rfl rfl ?_)
      refine SeqR.d1 rfl rfl rfl (yl_move rfl rfl ?_)
      refine SeqR.d1 rfl rfl rfl (yl_sindexN Try.un9 (a := p_s) rfl rfl rfl (by first | omega | assumption | (simp only [IntKind.wrap_i64] at *; omega)) ?_)
      refine SeqR.d1 rfl rfl rfl (yl_lss rfl rfl rfl ?_)
      refine SeqR.d1 rfl rfl rfl (yl_move rfl rfl ?_)
      refine bcase (decide (((p_s.getD k3 0).toNat : Int) < 97)) (fun hb19 => ?_) (fun hb19 => ?_)
      · have hb19p := dec_t hb19
        refine SeqR.z rfl rfl rfl rfl rfl hb19 ?_
        refine SeqR.z rfl rfl rfl rfl rfl hb19 ?_
        refine SeqR.z rfl rfl rfl rfl rfl hb19 ?_
        refine SeqR.z rfl rfl rfl rfl rfl hb19 ?_
        refine SeqR.d1 rfl rfl rfl (yl_pick_t rfl rfl hb19 rfl ?_)
        refine SeqR.done ?_
        refine tn ?_
        refine CW.cond_t rfl rfl ?_
        refine CW.seq ?_
        refine CW.region ?_
        refine SeqR.d1 rfl rfl rfl (yl_assign rfl rfl ?_)
        refine SeqR.done ?_
        refine tn ?_
        refine CW.ret ?_
        refine br ?_
        refine tr ?_
        refine tr ?_
        have hB21 : B_s_l24Letters_0 p_s p_most k3 () = .ret false := by simp only [B_s_l24Letters_0, hb19, cond_true, cond_false, loopE_done, loopE_ret]
        have hL20 : loopM (B_s_l24Letters_0 p_s p_most) (p_s.length - 0) 0 () = .ret false := hI11.symm.trans (loopM.ret hlt18 hB21)
        refine br ?_
        refine tr ?_
        refine rr rfl (.cons rfl .nil) ?_
        have hM22 : (s_l24Letters p_s p_most) = (false) := by simp only [s_l24Letters, hb19, hL20, cond_true, cond_false, loopE_done, loopE_ret]
        rw [hM22]
        exact ⟨rfl, hf16⟩
      · have hb19p := dec_f hb19
        refine SeqR.y rfl rfl rfl rfl rfl hb19 (yl_move rfl rfl ?_)
        refine SeqR.y rfl rfl rfl rfl rfl hb19 (yl_move rfl rfl ?_)
        refine SeqR.y rfl rfl rfl rfl rfl hb19 (yl_sindexN Try.un9 (a := p_s) rfl rfl rfl (by first | omega | assumption | (simp only [IntKind.wrap_i64] at *; omega)) ?_)
        refine SeqR.y rfl rfl rfl rfl rfl hb19 (yl_gtr rfl rfl rfl ?_)
        refine SeqR.d1 rfl rfl rfl (yl_pick_f rfl rfl hb19 rfl ?_)
        refine SeqR.done ?_
        refine tn ?_
        refine bcase (decide (122 < ((p_s.getD k3 0).toNat : Int))) (fun hb23 => ?_) (fun hb23 => ?_)
        · have hb23p := dec_t hb23
          refine CW.cond_t rfl hb23 ?_
          refine CW.seq ?_
          refine CW.region ?_
          refine SeqR.d1 rfl rfl rfl (yl_assign rfl rfl ?_)
          refine SeqR.done ?_
          refine tn ?_
          refine CW.ret ?_
          refine br ?_
          refine tr ?_
          refine tr ?_
          have hB25 : B_s_l24Letters_0 p_s p_most k3 () = .ret false := by simp only [B_s_l24Letters_0, hb19, hb23, cond_true, cond_false, loopE_done, loopE_ret]
          have hL24 : loopM (B_s_l24Letters_0 p_s p_most) (p_s.length - 0) 0 () = .ret false := hI11.symm.trans (loopM.ret hlt18 hB25)
          refine br ?_
          refine tr ?_
          refine rr rfl (.cons rfl .nil) ?_
          have hM26 : (s_l24Letters p_s p_most) = (false) := by simp only [s_l24Letters, hb19, hb23, hL24, cond_true, cond_false, loopE_done, loopE_ret]
          rw [hM26]
          exact ⟨rfl, hf16⟩
        · have hb23p := dec_f hb23
          refine CW.cond_f rfl hb23 ?_
          refine CW.skip ?_
          refine bn ?_
          refine tn ?_
          refine CW.region ?_
          refine SeqR.d1 rfl rfl rfl (yl_move rfl rfl ?_)
          refine SeqR.d1 rfl rfl rfl (yl_inc rfl rfl rfl (by omega) ?_)
          refine SeqR.d1 rfl rfl rfl (yl_assign rfl rfl ?_)
          refine SeqR.done ?_
          refine tn ?_
          have hB27 : B_s_l24Letters_0 p_s p_most k3 () = .cont () := by simp only [B_s_l24Letters_0, hb19, hb23, cond_true, cond_false, loopE_done, loopE_ret]
          exact ⟨p_s.length - (k3 + 1), by omega, k3 + 1, rfl, hlt18, (by omega), rfl, rfl, rfl, hf16, (loopM.cont hlt18 hB27).symm.trans hI11⟩
    · skip
      refine CW.seq ?_
      refine CW.seq ?_
      refine CW.region ?_
      refine SeqR.d1 rfl rfl rfl (yl_move rfl rfl ?_)
      refine SeqR.d1 rfl rfl rfl (yl_move rfl rfl ?_)
      refine SeqR.d1 rfl rfl rfl (yl_slen Try.un9 (a := p_s) rfl rfl ?_)
      refine SeqR.d1 rfl rfl rfl (yl_lss rfl rfl rfl ?_)
      refine SeqR.done ?_
      refine tn ?_
      refine CW.cond_f rfl (lt_f hlt18) ?_
      refine CW.exit ?_
      refine tx ?_
      refine tx ?_
      have hL28 : loopM (B_s_l24Letters_0 p_s p_most) (p_s.length - 0) 0 () = .done () := hI11.symm.trans (loopM.stop hlt18)
      refine bx ?_
      refine tn ?_
      refine CW.seq ?_
      refine CW.region ?_
      refine SeqR.d1 rfl rfl rfl (yl_move rfl rfl ?_)
      refine SeqR.d1 rfl rfl rfl (yl_slen Try.un9 (a := p_s) rfl rfl ?_)
      refine SeqR.d1 rfl rfl rfl (yl_geq rfl rfl rfl ?_)
      refine SeqR.d1 rfl rfl rfl (yl_move rfl rfl ?_)
      refine bcase (decide (1 ≤ (p_s.length : Int))) (fun hb29 => ?_) (fun hb29 => ?_)
      · have hb29p := dec_t hb29
        refine SeqR.y rfl rfl rfl rfl rfl hb29 (yl_move rfl rfl ?_)
        refine SeqR.y rfl rfl rfl rfl rfl hb29 (yl_slen Try.un9 (a := p_s) rfl rfl ?_)
        refine SeqR.y rfl rfl rfl rfl rfl hb29 (yl_move rfl rfl ?_)
        refine SeqR.y rfl rfl rfl rfl rfl hb29 (yl_leq rfl rfl rfl ?_)
        refine SeqR.d1 rfl rfl rfl (yl_pick_t rfl rfl hb29 rfl ?_)
        refine SeqR.d1 rfl rfl rfl (yl_assign rfl rfl ?_)
        refine SeqR.done ?_
        refine tn ?_
        refine CW.ret ?_
        refine rr rfl (.cons rfl .nil) ?_
        have hM30 : (s_l24Letters p_s p_most) = (decide ((p_s.length : Int) ≤ p_most)) := by simp only [s_l24Letters, hb29, hL28, cond_true, cond_false, loopE_done, loopE_ret]
        rw [hM30]
        exact ⟨rfl, hf16⟩
      · have hb29p := dec_f hb29
        refine SeqR.z rfl rfl rfl rfl rfl hb29 ?_
        refine SeqR.z rfl rfl rfl rfl rfl hb29 ?_
        refine SeqR.z rfl rfl rfl rfl rfl hb29 ?_
        refine SeqR.z rfl rfl rfl rfl rfl hb29 ?_
        refine SeqR.d1 rfl rfl rfl (yl_pick_f rfl rfl hb29 rfl ?_)
        refine SeqR.d1 rfl rfl rfl (yl_assign rfl rfl ?_)
        refine SeqR.done ?_
        refine tn ?_
        refine CW.ret ?_
        refine rr rfl (.cons rfl .nil) ?_
        have hM31 : (s_l24Letters p_s p_most) = (false) := by simp only [s_l24Letters, hb29, hL28, cond_true, cond_false, loopE_done, loopE_ret]
        rw [hM31]
        exact ⟨rfl, hf16⟩
set_option maxRecDepth 100000 in
set_option maxHeartbeats 2000000 in
theorem c_s_l24At {A1 : Option Addr} {c1 : Nat} {w : World} (p_l : List Str) (p_s : Str) (h1 : RdS w (Iv 0 w.heap.size) (RF e_Str) 1 A1 p_l.length c1 p_l) (o2 : (okL okS) p_l) (o3 : okS p_s) : Cal Try.prog 185 #[.slice A1 p_l.length c1, .string (bs (p_s))] w fun v w' => v = .int .i64 ((s_l24At p_l p_s)) ∧ Ex w w' := by
  have hol4 := o2.1
  have hol5 : p_s.length ≤ 1073741824 := o3
  refine Cal.of (vs := [.slice A1 p_l.length c1, .string (bs (p_s))]) Try.func185 rfl Try.ntmps185 rfl ?_
  refine CW.seq ?_
  refine CW.region ?_
  refine SeqR.d1 rfl rfl rfl (yl_assign rfl rfl ?_)
  refine SeqR.done ?_
  refine tn ?_
  refine CW.seq ?_
  refine CW.seq ?_
  refine CW.region ?_
  refine SeqR.d1 rfl rfl rfl (yl_move rfl rfl ?_)
  refine SeqR.d1 rfl rfl rfl (yl_len Try.un22 rfl rfl ?_)
  refine SeqR.d1 rfl rfl rfl (yl_move rfl rfl ?_)
  refine SeqR.done ?_
  refine tn ?_
  refine CW.block ?_
  refine CW.loop (fun m7 L8 w9 => ∃ (k6 : Nat), m7 = p_l.length - k6 ∧ k6 ≤ p_l.length ∧ w.heap.size ≤ w9.heap.size ∧ lkp L8 1 = some (.string (bs (p_s))) ∧ lkp L8 7 = some (.slice A1 p_l.length c1) ∧ lkp L8 8 = some (.int .i64 ((p_l.length : Int))) ∧ lkp L8 9 = some (.int .i64 ((k6 : Int))) ∧ RdS w9 (Iv 0 w.heap.size) (RF e_Str) 1 A1 p_l.length c1 p_l ∧ Ex w w9 ∧ loopM (B_s_l24At_0 p_l p_s) (p_l.length - k6) k6 () = loopM (B_s_l24At_0 p_l p_s) (p_l.length - 0) 0 ()) (p_l.length - 0) ?_ ?_
  · exact ⟨0, rfl, (by omega), Nat.le_refl _, rfl, rfl, rfl, rfl, h1, (Ex.refl w), rfl⟩
  · rintro m10 L11 w12 ⟨k6, rfl, hk13, hsz15, hl16, hl17, hl18, hl19, hf20, hf21, hI14⟩
    refine CW.sub (Sub.cons hl16 (Sub.cons hl17 (Sub.cons hl18 (Sub.cons hl19 (Sub.nil _))))) ?_
    have hf21z := Ex.size hf21
    have hbg22 := RdS.big hf20
    rcases Nat.lt_or_ge k6 p_l.length with hlt23 | hlt23
    · skip
      refine CW.seq ?_
      refine CW.region ?_
      refine SeqR.d1 rfl rfl rfl (yl_lss rfl rfl rfl ?_)
      refine SeqR.done ?_
      refine tn ?_
      refine CW.seq ?_
      refine CW.cond_t rfl (lt_t hlt23) ?_
      refine CW.skip ?_
      refine tn ?_
      refine CW.seq ?_
      refine CW.block ?_
      refine CW.seq ?_
      refine CW.region ?_
      refine SeqR.d1 rfl rfl rfl (yl_move rfl rfl ?_)
      obtain ⟨eb24, eo24, ec24, eA24, eS24, ebl24, el24, eR24, eC24⟩ := RdS.atD hf20 d_Str (i := k6) (by first | omega | assumption)
      obtain rfl := eR24
      have eC24 : Cells w12 eb24 (eo24 + k6 * 1) [.string (bs ((p_l.getD k6 d_Str)))] := eC24
      refine SeqR.d1 rfl rfl rfl (yl_indexAddrN Try.un22 Try.ty9 rfl rfl rfl eA24 (by first | omega | assumption | (simp only [IntKind.wrap_i64] at *; omega)) ?_)
      refine SeqR.d1 rfl rfl rfl (yl_load1 Try.ty9 rfl rfl (eC24 0 _ rfl) ?_)
      refine SeqR.d1 rfl rfl rfl (yl_assign rfl rfl ?_)
      refine SeqR.d1 rfl rfl rfl (yl_assign rfl rfl ?_)
      refine SeqR.done ?_
      refine tn ?_
      refine CW.seq ?_
      refine CW.region ?_
      refine SeqR.d1 rfl rfl rfl (yl_move rfl rfl ?_)
      refine SeqR.d1 rfl rfl rfl (yl_move rfl rfl ?_)
      refine SeqR.d1 rfl rfl rfl (yl_seql (a := (p_l.getD k6 d_Str)) (b := p_s) rfl rfl rfl ?_)
      refine SeqR.done ?_
      refine tn ?_
      refine bcase ((p_l.getD k6 d_Str) == p_s) (fun hb25 => ?_) (fun hb25 => ?_)
      · skip
        refine CW.cond_t rfl hb25 ?_
        refine CW.seq ?_
        refine CW.region ?_
        refine SeqR.d1 rfl rfl rfl (yl_move rfl rfl ?_)
        refine SeqR.d1 rfl rfl rfl (yl_assign rfl rfl ?_)
        refine SeqR.done ?_
        refine tn ?_
        refine CW.ret ?_
        refine br ?_
        refine tr ?_
        refine tr ?_
        have hB27 : B_s_l24At_0 p_l p_s k6 () = .ret (k6 : Int) := by simp only [B_s_l24At_0, hb25, cond_true, cond_false, loopE_done, loopE_ret]
        have hL26 : loopM (B_s_l24At_0 p_l p_s) (p_l.length - 0) 0 () = .ret (k6 : Int) := hI14.symm.trans (loopM.ret hlt23 hB27)
        refine br ?_
        refine tr ?_
        refine rr rfl (.cons rfl .nil) ?_
        have hM28 : (s_l24At p_l p_s) = ((k6 : Int)) := by simp only [s_l24At, hb25, hL26, cond_true, cond_false, loopE_done, loopE_ret]
        rw [hM28]
        exact ⟨rfl, hf21⟩
      · skip
        refine CW.cond_f rfl hb25 ?_
        refine CW.skip ?_
        refine bn ?_
        refine tn ?_
        refine CW.region ?_
        refine SeqR.d1 rfl rfl rfl (yl_inc rfl rfl rfl (by omega) ?_)
        refine SeqR.d1 rfl rfl rfl (yl_move rfl rfl ?_)
        refine SeqR.done ?_
        refine tn ?_
        have hB29 : B_s_l24At_0 p_l p_s k6 () = .cont () := by simp only [B_s_l24At_0, hb25, cond_true, cond_false, loopE_done, loopE_ret]
        exact ⟨p_l.length - (k6 + 1), by omega, k6 + 1, rfl, hlt23, (by omega), rfl, rfl, rfl, rfl, hf20, hf21, (loopM.cont hlt23 hB29).symm.trans hI14⟩
    · skip
      refine CW.seq ?_
      refine CW.region ?_
      refine SeqR.d1 rfl rfl rfl (yl_lss rfl rfl rfl ?_)
      refine SeqR.done ?_
      refine tn ?_
      refine CW.seq ?_
      refine CW.cond_f rfl (lt_f hlt23) ?_
      refine CW.exit ?_
      refine tx ?_
      refine tx ?_
      have hL30 : loopM (B_s_l24At_0 p_l p_s) (p_l.length - 0) 0 () = .done () := hI14.symm.trans (loopM.stop hlt23)
      refine bx ?_
      refine tn ?_
      refine CW.seq ?_
      refine CW.region ?_
      refine SeqR.d1 rfl rfl rfl (yl_assign rfl rfl ?_)
      refine SeqR.done ?_
      refine tn ?_
      refine CW.ret ?_
      refine rr rfl (.cons rfl .nil) ?_
      have hM31 : (s_l24At p_l p_s) = (-1) := by simp only [s_l24At, hL30, cond_true, cond_false, loopE_done, loopE_ret]
      rw [hM31]
      exact ⟨rfl, hf21⟩
set_option maxRecDepth 100000 in
set_option maxHeartbeats 2000000 in
theorem c_s_l24Cols {A1 : Option Addr} {c1 : Nat} {w : World} (p_l : List Str) (h1 : RdS w (Iv 0 w.heap.size) (RF e_Str) 1 A1 p_l.length c1 p_l) (o2 : (okL okS) p_l) : Cal Try.prog 140 #[.slice A1 p_l.length c1] w fun v w' => v = .bool ((s_l24Cols p_l)) ∧ Ex w w' := by
  have hol3 := o2.1
  refine Cal.of (vs := [.slice A1 p_l.length c1]) Try.func140 rfl Try.ntmps140 rfl ?_
  refine CW.seq ?_
  refine CW.region ?_
  refine SeqR.d1 rfl rfl rfl (yl_assign rfl rfl ?_)
  refine SeqR.done ?_
  refine tn ?_
  refine CW.seq ?_
  refine CW.seq ?_
  refine CW.region ?_
  refine SeqR.d1 rfl rfl rfl (yl_move rfl rfl ?_)
  refine SeqR.d1 rfl rfl rfl (yl_len Try.un22 rfl rfl ?_)
  refine SeqR.d1 rfl rfl rfl (yl_move rfl rfl ?_)
  refine SeqR.done ?_
  refine tn ?_
  refine CW.block ?_
  refine CW.loop (fun m5 L6 w7 => ∃ (k4 : Nat), m5 = p_l.length - k4 ∧ k4 ≤ p_l.length ∧ w.heap.size ≤ w7.heap.size ∧ lkp L6 0 = some (.slice A1 p_l.length c1) ∧ lkp L6 5 = some (.slice A1 p_l.length c1) ∧ lkp L6 6 = some (.int .i64 ((p_l.length : Int))) ∧ lkp L6 7 = some (.int .i64 ((k4 : Int))) ∧ RdS w7 (Iv 0 w.heap.size) (RF e_Str) 1 A1 p_l.length c1 p_l ∧ Ex w w7 ∧ loopM (B_s_l24Cols_0 p_l) (p_l.length - k4) k4 () = loopM (B_s_l24Cols_0 p_l) (p_l.length - 0) 0 ()) (p_l.length - 0) ?_ ?_
  · exact ⟨0, rfl, (by omega), Nat.le_refl _, rfl, rfl, rfl, rfl, h1, (Ex.refl w), rfl⟩
  · rintro m8 L9 w10 ⟨k4, rfl, hk11, hsz13, hl14, hl15, hl16, hl17, hf18, hf19, hI12⟩
    refine CW.sub (Sub.cons hl14 (Sub.cons hl15 (Sub.cons hl16 (Sub.cons hl17 (Sub.nil _))))) ?_
    have hf19z := Ex.size hf19
    have hbg20 := RdS.big hf18
    rcases Nat.lt_or_ge k4 p_l.length with hlt21 | hlt21
    · skip
      refine CW.seq ?_
      refine CW.region ?_
      refine SeqR.d1 rfl rfl rfl (yl_lss rfl rfl rfl ?_)
      refine SeqR.done ?_
      refine tn ?_
      refine CW.seq ?_
      refine CW.cond_t rfl (lt_t hlt21) ?_
      refine CW.skip ?_
      refine tn ?_
      refine CW.seq ?_
      refine CW.block ?_
      refine CW.seq ?_
      refine CW.region ?_
      refine SeqR.d1 rfl rfl rfl (yl_move rfl rfl ?_)
      obtain ⟨eb22, eo22, ec22, eA22, eS22, ebl22, el22, eR22, eC22⟩ := RdS.atD hf18 d_Str (i := k4) (by first | omega | assumption)
      obtain rfl := eR22
      have eC22 : Cells w10 eb22 (eo22 + k4 * 1) [.string (bs ((p_l.getD k4 d_Str)))] := eC22
      refine SeqR.d1 rfl rfl rfl (yl_indexAddrN Try.un22 Try.ty9 rfl rfl rfl eA22 (by first | omega | assumption | (simp only [IntKind.wrap_i64] at *; omega)) ?_)
      refine SeqR.d1 rfl rfl rfl (yl_load1 Try.ty9 rfl rfl (eC22 0 _ rfl) ?_)
      refine SeqR.d1 rfl rfl rfl (yl_assign rfl rfl ?_)
      refine SeqR.d1 rfl rfl rfl (yl_assign rfl rfl ?_)
      refine SeqR.done ?_
      refine tn ?_
      refine CW.seq ?_
      refine CW.region ?_
      refine SeqR.d1 rfl rfl rfl (yl_move rfl rfl ?_)
      refine SeqR.d1 rfl rfl rfl (yl_call Try.en139 rfl (opvs_cons rfl (opvs_cons rfl opvs_nil)) (Cal.mono (c_s_l24Letters (p_l.getD k4 d_Str) 3 (okL.getD o2 ok_d_Str _)) ?_))
      rintro v24 w23 ⟨rfl, hE25⟩
      have hE25z := Ex.size hE25
      refine SeqR.d1 rfl rfl rfl (yl_not rfl rfl ?_)
      refine SeqR.d1 rfl rfl rfl (yl_move rfl rfl ?_)
      refine bcase (s_l24Letters (p_l.getD k4 d_Str) 3) (fun hb26 => ?_) (fun hb26 => ?_)
      · skip
        refine SeqR.y rfl rfl rfl rfl rfl (not_t hb26) (yl_move rfl rfl ?_)
        refine SeqR.y rfl rfl rfl rfl rfl (not_t hb26) (yl_move rfl rfl ?_)
        have q27 := RdS.ex good_Str hf18 hE25
        obtain ⟨A28, c29, he32, h31⟩ := RdS.sl (RdS.drop (RdS.take q27 (k := k4) (by omega)) (k := 0) (by omega))
        have hrc33 := (q27).2.1
        refine SeqR.y rfl rfl rfl rfl rfl (not_t hb26) (yl_sliceR (kl := .i64) (l := 0) (h := k4) Try.un22 Try.ty9 rfl rfl (.inl ⟨rfl, rfl⟩) (.inr ⟨_, rfl, rfl⟩) (by omega) (by omega) he32 ?_)
        refine SeqR.y rfl rfl rfl rfl rfl (not_t hb26) (yl_move rfl rfl ?_)
        refine SeqR.y rfl rfl rfl rfl rfl (not_t hb26) (yl_call Try.en185 rfl (opvs_cons rfl (opvs_cons rfl opvs_nil)) (Cal.mono (c_s_l24At (p_l.take k4) (p_l.getD k4 d_Str) (RdS.up h31 good_Str) (okL.take o2 _) (okL.getD o2 ok_d_Str _)) ?_))
        rintro v35 w34 ⟨rfl, hE36⟩
        have hE36z := Ex.size hE36
        refine SeqR.y rfl rfl rfl rfl rfl (not_t hb26) (yl_geq rfl rfl rfl ?_)
        refine SeqR.d1 rfl rfl rfl (yl_pick_f rfl rfl (not_t hb26) rfl ?_)
        refine SeqR.done ?_
        refine tn ?_
        refine bcase (decide (0 ≤ (s_l24At (p_l.take k4) (p_l.getD k4 d_Str)))) (fun hb37 => ?_) (fun hb37 => ?_)
        · have hb37p := dec_t hb37
          refine CW.cond_t rfl hb37 ?_
          refine CW.seq ?_
          refine CW.region ?_
          refine SeqR.d1 rfl rfl rfl (yl_assign rfl rfl ?_)
          refine SeqR.done ?_
          refine tn ?_
          refine CW.ret ?_
          refine br ?_
          refine tr ?_
          refine tr ?_
          have hB39 : B_s_l24Cols_0 p_l k4 () = .ret false := by simp only [B_s_l24Cols_0, hb26, hb37, cond_true, cond_false, loopE_done, loopE_ret]
          have hL38 : loopM (B_s_l24Cols_0 p_l) (p_l.length - 0) 0 () = .ret false := hI12.symm.trans (loopM.ret hlt21 hB39)
          refine br ?_
          refine tr ?_
          refine rr rfl (.cons rfl .nil) ?_
          have hM40 : (s_l24Cols p_l) = (false) := by simp only [s_l24Cols, hb26, hb37, hL38, cond_true, cond_false, loopE_done, loopE_ret]
          rw [hM40]
          have q41 := Ex.trans hf19 hE25
          have q42 := Ex.trans q41 hE36
          exact ⟨rfl, q42⟩
        · have hb37p := dec_f hb37
          refine CW.cond_f rfl hb37 ?_
          refine CW.skip ?_
          refine bn ?_
          refine tn ?_
          refine CW.region ?_
          refine SeqR.d1 rfl rfl rfl (yl_inc rfl rfl rfl (by omega) ?_)
          refine SeqR.d1 rfl rfl rfl (yl_move rfl rfl ?_)
          refine SeqR.done ?_
          refine tn ?_
          have hB43 : B_s_l24Cols_0 p_l k4 () = .cont () := by simp only [B_s_l24Cols_0, hb26, hb37, cond_true, cond_false, loopE_done, loopE_ret]
          have q44 := RdS.ex good_Str q27 hE36
          have q45 := Ex.trans hf19 hE25
          have q46 := Ex.trans q45 hE36
          exact ⟨p_l.length - (k4 + 1), by omega, k4 + 1, rfl, hlt21, (by omega), rfl, rfl, rfl, rfl, q44, q46, (loopM.cont hlt21 hB43).symm.trans hI12⟩
      · skip
        refine SeqR.z rfl rfl rfl rfl rfl (not_f hb26) ?_
        refine SeqR.z rfl rfl rfl rfl rfl (not_f hb26) ?_
        refine SeqR.z rfl rfl rfl rfl rfl (not_f hb26) ?_
        refine SeqR.z rfl rfl rfl rfl rfl (not_f hb26) ?_
        refine SeqR.z rfl rfl rfl rfl rfl (not_f hb26) ?_
        refine SeqR.z rfl rfl rfl rfl rfl (not_f hb26) ?_
        refine SeqR.d1 rfl rfl rfl (yl_pick_t rfl rfl (not_f hb26) rfl ?_)
        refine SeqR.done ?_
        refine tn ?_
        refine CW.cond_t rfl rfl ?_
        refine CW.seq ?_
        refine CW.region ?_
        refine SeqR.d1 rfl rfl rfl (yl_assign rfl rfl ?_)
        refine SeqR.done ?_
        refine tn ?_
        refine CW.ret ?_
        refine br ?_
        refine tr ?_
        refine tr ?_
        have hB48 : B_s_l24Cols_0 p_l k4 () = .ret false := by simp only [B_s_l24Cols_0, hb26, cond_true, cond_false, loopE_done, loopE_ret]
        have hL47 : loopM (B_s_l24Cols_0 p_l) (p_l.length - 0) 0 () = .ret false := hI12.symm.trans (loopM.ret hlt21 hB48)
        refine br ?_
        refine tr ?_
        refine rr rfl (.cons rfl .nil) ?_
        have hM49 : (s_l24Cols p_l) = (false) := by simp only [s_l24Cols, hb26, hL47, cond_true, cond_false, loopE_done, loopE_ret]
        rw [hM49]
        have q50 := Ex.trans hf19 hE25
        exact ⟨rfl, q50⟩
    · skip
      refine CW.seq ?_
      refine CW.region ?_
      refine SeqR.d1 rfl rfl rfl (yl_lss rfl rfl rfl ?_)
      refine SeqR.done ?_
      refine tn ?_
      refine CW.seq ?_
      refine CW.cond_f rfl (lt_f hlt21) ?_
      refine CW.exit ?_
      refine tx ?_
      refine tx ?_
      have hL51 : loopM (B_s_l24Cols_0 p_l) (p_l.length - 0) 0 () = .done () := hI12.symm.trans (loopM.stop hlt21)
      refine bx ?_
      refine tn ?_
      refine CW.seq ?_
      refine CW.region ?_
      refine SeqR.d1 rfl rfl rfl (yl_move rfl rfl ?_)
      refine SeqR.d1 rfl rfl rfl (yl_len Try.un22 rfl rfl ?_)
      refine SeqR.d1 rfl rfl rfl (yl_call Try.en124 rfl (opvs_cons rfl (opvs_cons rfl (opvs_cons rfl opvs_nil))) (Cal.mono (c_s_l1In (p_l.length : Int) 2 4) ?_))
      rintro v53 w52 ⟨rfl, hE54⟩
      have hE54z := Ex.size hE54
      refine SeqR.d1 rfl rfl rfl (yl_assign rfl rfl ?_)
      refine SeqR.done ?_
      refine tn ?_
      refine CW.ret ?_
      refine rr rfl (.cons rfl .nil) ?_
      have hM55 : (s_l24Cols p_l) = ((s_l1In (p_l.length : Int) 2 4)) := by simp only [s_l24Cols, hL51, cond_true, cond_false, loopE_done, loopE_ret]
      rw [hM55]
      have q56 := Ex.trans hf19 hE54
      exact ⟨rfl, q56⟩
set_option maxRecDepth 100000 in
set_option maxHeartbeats 2000000 in
theorem c_s_GoodTable {A1 : Option Addr} {c1 : Nat} {A2 : Option Addr} {c2 : Nat} {w : World} (p_0 : DTable) (h1 : RdS w (Iv 0 w.heap.size) (RF e_Str) 1 A1 p_0.Cols.length c1 p_0.Cols) (h2 : RdS w (Iv 0 w.heap.size) (RF e_Idx) 3 A2 p_0.Idxs.length c2 p_0.Idxs) (o3 : ok_Table p_0) : Cal Try.prog 68 #[.agg #[.string (bs (p_0.Name)), .slice A1 p_0.Cols.length c1, .slice A2 p_0.Idxs.length c2]] w fun v w' => v = .bool ((s_GoodTable p_0)) ∧ Ex w w' := by
  have hol4 : p_0.Name.length ≤ 1073741824 := o3.1
  have hol5 := o3.2.1.1
  have hol6 := o3.2.2.1
  refine Cal.of (vs := [.agg #[.string (bs (p_0.Name)), .slice A1 p_0.Cols.length c1, .slice A2 p_0.Idxs.length c2]]) Try.func68 rfl Try.ntmps68 rfl ?_
  refine CW.seq ?_
  refine CW.region ?_
  refine SeqR.d1 rfl rfl rfl (yl_box (cs := [.string (bs (p_0.Name)), .slice A1 p_0.Cols.length c1, .slice A2 p_0.Idxs.length c2]) rfl rfl rfl ?_)
  intro b7 w8 hs9 hz10 hB11 hE12
  refine SeqR.d1 rfl rfl rfl (yl_assign rfl rfl ?_)
  refine SeqR.done ?_
  refine tn ?_
  refine CW.seq ?_
  refine CW.seq ?_
  refine CW.region ?_
  refine SeqR.d1 rfl rfl rfl (yl_fieldAddr Try.fd35_0 rfl rfl ?_)
  refine SeqR.d1 rfl rfl rfl (yl_load1 Try.ty9 rfl rfl ((hB11.cell 0).trans rfl) ?_)
  refine SeqR.d1 rfl rfl rfl (yl_call Try.en139 rfl (opvs_cons rfl (opvs_cons rfl opvs_nil)) (Cal.mono (c_s_l24Letters p_0.Name 1 o3.1) ?_))
  rintro v14 w13 ⟨rfl, hE15⟩
  have hE15z := Ex.size hE15
  refine SeqR.d1 rfl rfl rfl (yl_not rfl rfl ?_)
  refine SeqR.d1 rfl rfl rfl (yl_move rfl rfl ?_)
  refine bcase (s_l24Letters p_0.Name 1) (fun hb16 => ?_) (fun hb16 => ?_)
  · skip
    refine SeqR.y rfl rfl rfl rfl rfl (not_t hb16) (yl_fieldAddr Try.fd35_1 rfl rfl ?_)
    have q17 := Box.ex hB11 hE15
    refine SeqR.y rfl rfl rfl rfl rfl (not_t hb16) (yl_load1 Try.ty22 rfl rfl ((q17.cell 1).trans rfl) ?_)
    have q18 := RdS.ex good_Str h1 hE12
    have q19 := RdS.ex good_Str q18 hE15
    refine SeqR.y rfl rfl rfl rfl rfl (not_t hb16) (yl_call Try.en140 rfl (opvs_cons rfl opvs_nil) (Cal.mono (c_s_l24Cols p_0.Cols (RdS.up q19 good_Str) o3.2.1) ?_))
    rintro v21 w20 ⟨rfl, hE22⟩
    have hE22z := Ex.size hE22
    refine SeqR.y rfl rfl rfl rfl rfl (not_t hb16) (yl_not rfl rfl ?_)
    refine SeqR.d1 rfl rfl rfl (yl_pick_f rfl rfl (not_t hb16) rfl ?_)
    refine SeqR.d1 rfl rfl rfl (yl_move rfl rfl ?_)
    refine bcase (s_l24Cols p_0.Cols) (fun hb23 => ?_) (fun hb23 => ?_)
    · skip
      refine SeqR.y rfl rfl rfl rfl rfl (not_t hb23) (yl_fieldAddr Try.fd35_2 rfl rfl ?_)
      have q24 := Box.ex q17 hE22
      refine SeqR.y rfl rfl rfl rfl rfl (not_t hb23) (yl_load1 Try.ty33 rfl rfl ((q24.cell 2).trans rfl) ?_)
      refine SeqR.y rfl rfl rfl rfl rfl (not_t hb23) (yl_len Try.un33 rfl rfl ?_)
      refine SeqR.y rfl rfl rfl rfl rfl (not_t hb23) (yl_gtr rfl rfl rfl ?_)
      refine SeqR.d1 rfl rfl rfl (yl_pick_f rfl rfl (not_t hb23) rfl ?_)
      refine SeqR.done ?_
      refine tn ?_
      refine bcase (decide (3 < (p_0.Idxs.length : Int))) (fun hb25 => ?_) (fun hb25 => ?_)
      · have hb25p := dec_t hb25
        refine CW.cond_t rfl hb25 ?_
        refine CW.seq ?_
        refine CW.region ?_
        refine SeqR.d1 rfl rfl rfl (yl_assign rfl rfl ?_)
        refine SeqR.done ?_
        refine tn ?_
        refine CW.ret ?_
        refine tr ?_
        refine rr rfl (.cons rfl .nil) ?_
        have hM26 : (s_GoodTable p_0) = (false) := by simp only [s_GoodTable, hb16, hb23, hb25, cond_true, cond_false, loopE_done, loopE_ret]
        rw [hM26]
        have q27 := Ex.trans (Ex.refl w) hE12
        have q28 := Ex.trans q27 hE15
        have q29 := Ex.trans q28 hE22
        exact ⟨rfl, q29⟩
      · have hb25p := dec_f hb25
        refine CW.cond_f rfl hb25 ?_
        refine CW.skip ?_
        refine tn ?_
        refine CW.seq ?_
        refine CW.seq ?_
        refine CW.region ?_
        refine SeqR.d1 rfl rfl rfl (yl_fieldAddr Try.fd35_2 rfl rfl ?_)
        refine SeqR.d1 rfl rfl rfl (yl_load1 Try.ty33 rfl rfl ((q24.cell 2).trans rfl) ?_)
        refine SeqR.d1 rfl rfl rfl (yl_len Try.un33 rfl rfl ?_)
        refine SeqR.d1 rfl rfl rfl (yl_move rfl rfl ?_)
        refine SeqR.done ?_
        refine tn ?_
        refine CW.block ?_
        have q71 := RdS.ex good_Str q19 hE22
        have q72 := RdS.ex good_Idx h2 hE12
        have q73 := RdS.ex good_Idx q72 hE15
        have q74 := RdS.ex good_Idx q73 hE22
        have q75 := Ex.trans (Ex.refl w) hE12
        have q76 := Ex.trans q75 hE15
        have q77 := Ex.trans q76 hE22
        refine CW.loop (fun m68 L69 w70 => ∃ (k30 : Nat), m68 = p_0.Idxs.length - k30 ∧ k30 ≤ p_0.Idxs.length ∧ w20.heap.size ≤ w70.heap.size ∧ lkp L69 1 = some (.pointer (some ⟨b7, 0, none⟩)) ∧ lkp L69 22 = some (.slice A2 p_0.Idxs.length c2) ∧ lkp L69 23 = some (.int .i64 ((p_0.Idxs.length : Int))) ∧ lkp L69 24 = some (.int .i64 ((k30 : Int))) ∧ Box w70 b7 35 [.string (bs (p_0.Name)), .slice A1 p_0.Cols.length c1, .slice A2 p_0.Idxs.length c2] ∧ RdS w70 (Iv 0 w.heap.size) (RF e_Str) 1 A1 p_0.Cols.length c1 p_0.Cols ∧ RdS w70 (Iv 0 w.heap.size) (RF e_Idx) 3 A2 p_0.Idxs.length c2 p_0.Idxs ∧ Ex w w70 ∧ loopM (B_s_GoodTable_0 p_0) (p_0.Idxs.length - k30) k30 () = loopM (B_s_GoodTable_0 p_0) (p_0.Idxs.length - 0) 0 ()) (p_0.Idxs.length - 0) ?_ ?_
        · exact ⟨0, rfl, (by omega), Nat.le_refl _, rfl, rfl, rfl, rfl, q24, q71, q74, q77, rfl⟩
        · rintro m78 L79 w80 ⟨k30, rfl, hk81, hsz83, hl84, hl85, hl86, hl87, hf88, hf89, hf90, hf91, hI82⟩
          refine CW.sub (Sub.cons hl84 (Sub.cons hl85 (Sub.cons hl86 (Sub.cons hl87 (Sub.nil _))))) ?_
          have hf88z := Box.lt hf88
          have hf91z := Ex.size hf91
          have hbg92 := RdS.big hf90
          rcases Nat.lt_or_ge k30 p_0.Idxs.length with hlt93 | hlt93
          · skip
            refine CW.seq ?_
            refine CW.region ?_
            refine SeqR.d1 rfl rfl rfl (yl_lss rfl rfl rfl ?_)
            refine SeqR.done ?_
            refine tn ?_
            refine CW.seq ?_
            refine CW.cond_t rfl (lt_t hlt93) ?_
            refine CW.skip ?_
            refine tn ?_
            refine CW.seq ?_
            refine CW.block ?_
            refine CW.seq ?_
            refine CW.region ?_
            refine SeqR.d1 rfl rfl rfl (yl_move rfl rfl ?_)
            obtain ⟨eb94, eo94, ec94, eA94, eS94, ebl94, el94, eR94, eC94⟩ := RdS.atD hf90 d_Idx (i := k30) (by first | omega | assumption)
            obtain rfl := eR94
            have eC94 : Cells w80 eb94 (eo94 + k30 * 3) [.string (bs ((p_0.Idxs.getD k30 d_Idx).Name)), .int .i64 ((p_0.Idxs.getD k30 d_Idx).Col), .int .i64 ((p_0.Idxs.getD k30 d_Idx).Stage)] := eC94
            refine SeqR.d1 rfl rfl rfl (yl_indexAddrN Try.un33 Try.ty132 rfl rfl rfl eA94 (by first | omega | assumption | (simp only [IntKind.wrap_i64] at *; omega)) ?_)
            refine SeqR.d1 rfl rfl rfl (yl_loadN (cs := [.string (bs ((p_0.Idxs.getD k30 d_Idx).Name)), .int .i64 ((p_0.Idxs.getD k30 d_Idx).Col), .int .i64 ((p_0.Idxs.getD k30 d_Idx).Stage)]) Try.ty132 rfl rfl eC94 rfl ?_)
            refine SeqR.d1 rfl rfl rfl (yl_alloc Try.ty132 (cs := [.string (bs (([] : Str))), .int .i64 (0), .int .i64 (0)]) rfl rfl ?_)
            intro b95 w96 hs97 hz98 hB99 hE100
            refine SeqR.d1 rfl rfl rfl (yl_assign rfl rfl ?_)
            refine SeqR.u rfl rfl (yl_store (vs := [.string (bs ((p_0.Idxs.getD k30 d_Idx).Name)), .int .i64 ((p_0.Idxs.getD k30 d_Idx).Col), .int .i64 ((p_0.Idxs.getD k30 d_Idx).Stage)]) Try.ty132 rfl rfl rfl rfl rfl rfl hB99 (Nat.le_of_ble_eq_true rfl) ?_)
            intro w101 hB102 hO103
            have hB102 : Box w101 b95 132 [.string (bs ((p_0.Idxs.getD k30 d_Idx).Name)), .int .i64 ((p_0.Idxs.getD k30 d_Idx).Col), .int .i64 ((p_0.Idxs.getD k30 d_Idx).Stage)] := hB102
            have hO103z := hO103.size
            refine SeqR.done ?_
            refine tn ?_
            refine CW.seq ?_
            refine bcase (s_l24Letters ((p_0.Idxs.getD k30 d_Idx).Name) 1) (fun hb105 => ?_) (fun hb105 => ?_)
            · skip
              have q107 := Box.ex hf88 hE100
              have q108 := Box.only q107 hO103 (by omega)
              refine bcase (s_l1In ((p_0.Idxs.getD k30 d_Idx).Col) 1 (IntKind.wrap .i64 ((p_0.Cols.length : Int) - 1))) (fun hb110 => ?_) (fun hb110 => ?_)
              · have hb110p := f_l1In hb110
                have q112 := Box.ex hf88 hE100
                have q113 := Box.only q112 hO103 (by omega)
                refine bcase (s_l1In ((p_0.Idxs.getD k30 d_Idx).Stage) 0 3) (fun hb116 => ?_) (fun hb116 => ?_)
                · have hb116p := f_l1In hb116
                  have q118 := Box.ex hf88 hE100
                  have q119 := Box.only q118 hO103 (by omega)
                  refine bcase (decide (0 < (k30 : Int))) (fun hb122 => ?_) (fun hb122 => ?_)
                  · have hb122p := dec_t hb122
                    have q124 := Box.ex hf88 hE100
                    have q125 := Box.only q124 hO103 (by omega)
                    have q128 := RdS.ex good_Idx hf90 hE100
                    have q129 := RdS.only good_Idx q128 hO103 (by simp only [Iv]; omega)
                    obtain ⟨eb130, eo130, ec130, eA130, eS130, ebl130, el130, eR130, eC130⟩ := RdS.atD q129 d_Idx (i := (IntKind.wrap .i64 ((k30 : Int) - 1)).toNat) (by first | omega | assumption | (simp only [IntKind.wrap_i64] at *; omega))
                    obtain rfl := eR130
                    have eC130 : Cells w101 eb130 (eo130 + ((IntKind.wrap .i64 ((k30 : Int) - 1)).toNat) * 3) [.string (bs ((p_0.Idxs.getD ((IntKind.wrap .i64 ((k30 : Int) - 1)).toNat) d_Idx).Name)), .int .i64 ((p_0.Idxs.getD ((IntKind.wrap .i64 ((k30 : Int) - 1)).toNat) d_Idx).Col), .int .i64 ((p_0.Idxs.getD ((IntKind.wrap .i64 ((k30 : Int) - 1)).toNat) d_Idx).Stage)] := eC130
                    refine CW.drawsI 36 (vgetI [DetI (.pointer (some ⟨b95, 0 + 0, none⟩)), DetI (.string (bs ((p_0.Idxs.getD k30 d_Idx).Name))), DetI (.bool ((s_l24Letters ((p_0.Idxs.getD k30 d_Idx).Name) 1))), DetI (.bool (!(s_l24Letters ((p_0.Idxs.getD k30 d_Idx).Name) 1))), DetI (.bool (!(s_l24Letters ((p_0.Idxs.getD k30 d_Idx).Name) 1))), DetI (.pointer (some ⟨b95, 0 + 1, none⟩)), DetI (.int .i64 ((p_0.Idxs.getD k30 d_Idx).Col)), DetI (.pointer (some ⟨b7, 0 + 1, none⟩)), DetI (.slice A1 p_0.Cols.length c1), DetI (.int .i64 ((p_0.Cols.length : Int))), DetI (.int .i64 (IntKind.wrap .i64 ((p_0.Cols.length : Int) - 1))), DetI (.bool ((s_l1In ((p_0.Idxs.getD k30 d_Idx).Col) 1 (IntKind.wrap .i64 ((p_0.Cols.length : Int) - 1))))), DetI (.bool (!(s_l1In ((p_0.Idxs.getD k30 d_Idx).Col) 1 (IntKind.wrap .i64 ((p_0.Cols.length : Int) - 1))))), DetI (.bool (!(s_l1In ((p_0.Idxs.getD k30 d_Idx).Col) 1 (IntKind.wrap .i64 ((p_0.Cols.length : Int) - 1))))), DetI (.bool (!(s_l1In ((p_0.Idxs.getD k30 d_Idx).Col) 1 (IntKind.wrap .i64 ((p_0.Cols.length : Int) - 1))))), DetI (.pointer (some ⟨b95, 0 + 2, none⟩)), DetI (.int .i64 ((p_0.Idxs.getD k30 d_Idx).Stage)), DetI (.bool ((s_l1In ((p_0.Idxs.getD k30 d_Idx).Stage) 0 3))), DetI (.bool (!(s_l1In ((p_0.Idxs.getD k30 d_Idx).Stage) 0 3))), DetI (.bool (!(s_l1In ((p_0.Idxs.getD k30 d_Idx).Stage) 0 3))), DetI (.bool (!(s_l1In ((p_0.Idxs.getD k30 d_Idx).Stage) 0 3))), DetI (.int .i64 ((k30 : Int))), DetI (.bool (decide (0 < (k30 : Int)))), DetI (.bool (decide (0 < (k30 : Int)))), DetI (.pointer (some ⟨b7, 0 + 2, none⟩)), DetI (.slice A2 p_0.Idxs.length c2), DetI (.int .i64 ((k30 : Int))), DetI (.int .i64 (IntKind.wrap .i64 ((k30 : Int) - 1))), DetI (.pointer (some ⟨eb130, eo130 + ((IntKind.wrap .i64 ((k30 : Int) - 1)).toNat) * 3, none⟩)), DetI (.pointer (some ⟨eb130, eo130 + ((IntKind.wrap .i64 ((k30 : Int) - 1)).toNat) * 3 + 0, none⟩)), DetI (.string (bs ((p_0.Idxs.getD ((IntKind.wrap .i64 ((k30 : Int) - 1)).toNat) d_Idx).Name))), DetI (.pointer (some ⟨b95, 0 + 0, none⟩)), DetI (.string (bs ((p_0.Idxs.getD k30 d_Idx).Name))), DetI (.bool (!(sLt ((p_0.Idxs.getD ((IntKind.wrap .i64 ((k30 : Int) - 1)).toNat) d_Idx).Name) ((p_0.Idxs.getD k30 d_Idx).Name)))), DetI (.bool (!(sLt ((p_0.Idxs.getD ((IntKind.wrap .i64 ((k30 : Int) - 1)).toNat) d_Idx).Name) ((p_0.Idxs.getD k30 d_Idx).Name)))), DetI (.bool (!(sLt ((p_0.Idxs.getD ((IntKind.wrap .i64 ((k30 : Int) - 1)).toNat) d_Idx).Name) ((p_0.Idxs.getD k30 d_Idx).Name))))]) Try.follows rfl rfl rfl rfl rfl rfl (vgetI_stable ⟨StableI.det _, StableI.det _, StableI.det _, StableI.det _, StableI.det _, StableI.det _, StableI.det _, StableI.det _, StableI.det _, StableI.det _, StableI.det _, StableI.det _, StableI.det _, StableI.det _, StableI.det _, StableI.det _, StableI.det _, StableI.det _, StableI.det _, StableI.det _, StableI.det _, StableI.det _, StableI.det _, StableI.det _, StableI.det _, StableI.det _, StableI.det _, StableI.det _, StableI.det _, StableI.det _, StableI.det _, StableI.det _, StableI.det _, StableI.det _, StableI.det _, StableI.det _, trivial⟩) ⟨?_, ?_, ?_, ?_, ?_, ?_, ?_, ?_, ?_, ?_, ?_, ?_, ?_, ?_, ?_, ?_, ?_, ?_, ?_, ?_, ?_, ?_, ?_, ?_, ?_, ?_, ?_, ?_, ?_, ?_, ?_, ?_, ?_, ?_, ?_, ?_, trivial⟩ ?_
                    · intro L131 w132 hi133
                      have hE134 := hi133.ex
                      have hE134z := Ex.size hE134
                      have hx135 := hi133.old 4 _ rfl rfl
                      exact OpR.op' rfl (Yl.sameI (yl_fieldAddr Try.fd132_0 rfl hx135 ⟨fun _ _ => rfl, rfl⟩))
                    · intro L136 w137 hi138
                      have hE139 := hi138.ex
                      have hE139z := Ex.size hE139
                      obtain ⟨_, _, _, hx140, -, -, -, rfl⟩ := hi138.dep 0 29 rfl rfl
                      have q141 := Box.ex hB102 hE139
                      exact OpR.op' rfl (Yl.sameI (yl_load1 Try.ty9 rfl hx140 ((q141.cell 0).trans rfl) ⟨fun _ _ => rfl, rfl⟩))
                    · intro L142 w143 hi144
                      have hE145 := hi144.ex
                      have hE145z := Ex.size hE145
                      obtain ⟨_, _, _, hx146, -, -, -, rfl⟩ := hi144.dep 1 30 rfl rfl
                      refine OpR.op' rfl (yl_call Try.en139 rfl (opvs_cons hx146 (opvs_cons rfl opvs_nil)) (Cal.mono (c_s_l24Letters ((p_0.Idxs.getD k30 d_Idx).Name) 1 (okL.getD o3.2.2 ok_d_Idx _)) ?_))
                      rintro v148 w147 ⟨rfl, hE149⟩
                      exact ⟨rfl, hE149⟩
                    · intro L150 w151 hi152
                      have hE153 := hi152.ex
                      have hE153z := Ex.size hE153
                      obtain ⟨_, _, _, hx154, -, -, -, rfl⟩ := hi152.dep 2 31 rfl rfl
                      exact OpR.op' rfl (Yl.sameI (yl_not rfl hx154 ⟨fun _ _ => rfl, rfl⟩))
                    · intro L155 w156 hi157
                      have hE158 := hi157.ex
                      have hE158z := Ex.size hE158
                      obtain ⟨_, _, _, hx159, -, -, -, rfl⟩ := hi157.dep 3 32 rfl rfl
                      exact OpR.op' rfl (Yl.sameI (yl_move rfl hx159 ⟨fun _ _ => rfl, rfl⟩))
                    · intro L160 w161 hi162
                      have hE163 := hi162.ex
                      have hE163z := Ex.size hE163
                      obtain ⟨_, _, _, hx164, -, -, -, rfl⟩ := hi162.dep 4 33 rfl rfl
                      have hx165 := hi162.old 4 _ rfl rfl
                      exact OpR.want rfl rfl hx164 (not_t hb105) (Yl.sameI (yl_fieldAddr Try.fd132_1 rfl hx165 ⟨fun _ _ => rfl, rfl⟩))
                    · intro L166 w167 hi168
                      have hE169 := hi168.ex
                      have hE169z := Ex.size hE169
                      obtain ⟨_, _, _, hx170, -, -, -, rfl⟩ := hi168.dep 4 33 rfl rfl
                      obtain ⟨_, _, _, hx171, -, -, -, rfl⟩ := hi168.dep 5 34 rfl rfl
                      have q172 := Box.ex hB102 hE169
                      exact OpR.want rfl rfl hx170 (not_t hb105) (Yl.sameI (yl_load1 Try.ty3 rfl hx171 ((q172.cell 1).trans rfl) ⟨fun _ _ => rfl, rfl⟩))
                    · intro L173 w174 hi175
                      have hE176 := hi175.ex
                      have hE176z := Ex.size hE176
                      obtain ⟨_, _, _, hx177, -, -, -, rfl⟩ := hi175.dep 4 33 rfl rfl
                      have hx178 := hi175.old 1 _ rfl rfl
                      exact OpR.want rfl rfl hx177 (not_t hb105) (Yl.sameI (yl_fieldAddr Try.fd35_1 rfl hx178 ⟨fun _ _ => rfl, rfl⟩))
                    · intro L179 w180 hi181
                      have hE182 := hi181.ex
                      have hE182z := Ex.size hE182
                      obtain ⟨_, _, _, hx183, -, -, -, rfl⟩ := hi181.dep 4 33 rfl rfl
                      obtain ⟨_, _, _, hx184, -, -, -, rfl⟩ := hi181.dep 7 36 rfl rfl
                      have q185 := Box.ex q125 hE182
                      exact OpR.want rfl rfl hx183 (not_t hb105) (Yl.sameI (yl_load1 Try.ty22 rfl hx184 ((q185.cell 1).trans rfl) ⟨fun _ _ => rfl, rfl⟩))
                    · intro L186 w187 hi188
                      have hE189 := hi188.ex
                      have hE189z := Ex.size hE189
                      obtain ⟨_, _, _, hx190, -, -, -, rfl⟩ := hi188.dep 4 33 rfl rfl
                      obtain ⟨_, _, _, hx191, -, -, -, rfl⟩ := hi188.dep 8 37 rfl rfl
                      exact OpR.want rfl rfl hx190 (not_t hb105) (Yl.sameI (yl_len Try.un22 rfl hx191 ⟨fun _ _ => rfl, rfl⟩))
                    · intro L192 w193 hi194
                      have hE195 := hi194.ex
                      have hE195z := Ex.size hE195
                      obtain ⟨_, _, _, hx196, -, -, -, rfl⟩ := hi194.dep 4 33 rfl rfl
                      obtain ⟨_, _, _, hx197, -, -, -, rfl⟩ := hi194.dep 9 38 rfl rfl
                      exact OpR.want rfl rfl hx196 (not_t hb105) (Yl.sameI (yl_sub rfl hx197 rfl ⟨fun _ _ => rfl, rfl⟩))
                    · intro L198 w199 hi200
                      have hE201 := hi200.ex
                      have hE201z := Ex.size hE201
                      obtain ⟨_, _, _, hx202, -, -, -, rfl⟩ := hi200.dep 4 33 rfl rfl
                      obtain ⟨_, _, _, hx203, -, -, -, rfl⟩ := hi200.dep 6 35 rfl rfl
                      obtain ⟨_, _, _, hx204, -, -, -, rfl⟩ := hi200.dep 10 39 rfl rfl
                      refine OpR.want rfl rfl hx202 (not_t hb105) (yl_call Try.en124 rfl (opvs_cons hx203 (opvs_cons rfl (opvs_cons hx204 opvs_nil))) (Cal.mono (c_s_l1In ((p_0.Idxs.getD k30 d_Idx).Col) 1 (IntKind.wrap .i64 ((p_0.Cols.length : Int) - 1))) ?_))
                      rintro v206 w205 ⟨rfl, hE207⟩
                      exact ⟨rfl, hE207⟩
                    · intro L208 w209 hi210
                      have hE211 := hi210.ex
                      have hE211z := Ex.size hE211
                      obtain ⟨_, _, _, hx212, -, -, -, rfl⟩ := hi210.dep 4 33 rfl rfl
                      obtain ⟨_, _, _, hx213, -, -, -, rfl⟩ := hi210.dep 11 40 rfl rfl
                      exact OpR.want rfl rfl hx212 (not_t hb105) (Yl.sameI (yl_not rfl hx213 ⟨fun _ _ => rfl, rfl⟩))
                    · intro L214 w215 hi216
                      have hE217 := hi216.ex
                      have hE217z := Ex.size hE217
                      obtain ⟨_, _, _, hx218, -, -, -, rfl⟩ := hi216.dep 12 41 rfl rfl
                      obtain ⟨_, _, _, hx219, -, -, -, rfl⟩ := hi216.dep 4 33 rfl rfl
                      exact OpR.op' rfl (Yl.sameI (yl_pick_f rfl hx219 (not_t hb105) hx218 ⟨fun _ _ => rfl, rfl⟩))
                    · intro L220 w221 hi222
                      have hE223 := hi222.ex
                      have hE223z := Ex.size hE223
                      obtain ⟨_, _, _, hx224, -, -, -, rfl⟩ := hi222.dep 13 42 rfl rfl
                      exact OpR.op' rfl (Yl.sameI (yl_move rfl hx224 ⟨fun _ _ => rfl, rfl⟩))
                    · intro L225 w226 hi227
                      have hE228 := hi227.ex
                      have hE228z := Ex.size hE228
                      obtain ⟨_, _, _, hx229, -, -, -, rfl⟩ := hi227.dep 14 43 rfl rfl
                      have hx230 := hi227.old 4 _ rfl rfl
                      exact OpR.want rfl rfl hx229 (not_t hb110) (Yl.sameI (yl_fieldAddr Try.fd132_2 rfl hx230 ⟨fun _ _ => rfl, rfl⟩))
                    · intro L231 w232 hi233
                      have hE234 := hi233.ex
                      have hE234z := Ex.size hE234
                      obtain ⟨_, _, _, hx235, -, -, -, rfl⟩ := hi233.dep 14 43 rfl rfl
                      obtain ⟨_, _, _, hx236, -, -, -, rfl⟩ := hi233.dep 15 44 rfl rfl
                      have q237 := Box.ex hB102 hE234
                      exact OpR.want rfl rfl hx235 (not_t hb110) (Yl.sameI (yl_load1 Try.ty3 rfl hx236 ((q237.cell 2).trans rfl) ⟨fun _ _ => rfl, rfl⟩))
                    · intro L238 w239 hi240
                      have hE241 := hi240.ex
                      have hE241z := Ex.size hE241
                      obtain ⟨_, _, _, hx242, -, -, -, rfl⟩ := hi240.dep 14 43 rfl rfl
                      obtain ⟨_, _, _, hx243, -, -, -, rfl⟩ := hi240.dep 16 45 rfl rfl
                      refine OpR.want rfl rfl hx242 (not_t hb110) (yl_call Try.en124 rfl (opvs_cons hx243 (opvs_cons rfl (opvs_cons rfl opvs_nil))) (Cal.mono (c_s_l1In ((p_0.Idxs.getD k30 d_Idx).Stage) 0 3) ?_))
                      rintro v245 w244 ⟨rfl, hE246⟩
                      exact ⟨rfl, hE246⟩
                    · intro L247 w248 hi249
                      have hE250 := hi249.ex
                      have hE250z := Ex.size hE250
                      obtain ⟨_, _, _, hx251, -, -, -, rfl⟩ := hi249.dep 14 43 rfl rfl
                      obtain ⟨_, _, _, hx252, -, -, -, rfl⟩ := hi249.dep 17 46 rfl rfl
                      exact OpR.want rfl rfl hx251 (not_t hb110) (Yl.sameI (yl_not rfl hx252 ⟨fun _ _ => rfl, rfl⟩))
                    · intro L253 w254 hi255
                      have hE256 := hi255.ex
                      have hE256z := Ex.size hE256
                      obtain ⟨_, _, _, hx257, -, -, -, rfl⟩ := hi255.dep 18 47 rfl rfl
                      obtain ⟨_, _, _, hx258, -, -, -, rfl⟩ := hi255.dep 14 43 rfl rfl
                      exact OpR.op' rfl (Yl.sameI (yl_pick_f rfl hx258 (not_t hb110) hx257 ⟨fun _ _ => rfl, rfl⟩))
                    · intro L259 w260 hi261
                      have hE262 := hi261.ex
                      have hE262z := Ex.size hE262
                      obtain ⟨_, _, _, hx263, -, -, -, rfl⟩ := hi261.dep 19 48 rfl rfl
                      exact OpR.op' rfl (Yl.sameI (yl_move rfl hx263 ⟨fun _ _ => rfl, rfl⟩))
                    · intro L264 w265 hi266
                      have hE267 := hi266.ex
                      have hE267z := Ex.size hE267
                      obtain ⟨_, _, _, hx268, -, -, -, rfl⟩ := hi266.dep 20 49 rfl rfl
                      have hx269 := hi266.old 3 _ rfl rfl
                      exact OpR.want rfl rfl hx268 (not_t hb116) (Yl.sameI (yl_move rfl hx269 ⟨fun _ _ => rfl, rfl⟩))
                    · intro L270 w271 hi272
                      have hE273 := hi272.ex
                      have hE273z := Ex.size hE273
                      obtain ⟨_, _, _, hx274, -, -, -, rfl⟩ := hi272.dep 20 49 rfl rfl
                      obtain ⟨_, _, _, hx275, -, -, -, rfl⟩ := hi272.dep 21 50 rfl rfl
                      exact OpR.want rfl rfl hx274 (not_t hb116) (Yl.sameI (yl_gtr rfl hx275 rfl ⟨fun _ _ => rfl, rfl⟩))
                    · intro L276 w277 hi278
                      have hE279 := hi278.ex
                      have hE279z := Ex.size hE279
                      obtain ⟨_, _, _, hx280, -, -, -, rfl⟩ := hi278.dep 20 49 rfl rfl
                      obtain ⟨_, _, _, hx281, -, -, -, rfl⟩ := hi278.dep 22 51 rfl rfl
                      exact OpR.want rfl rfl hx280 (not_t hb116) (Yl.sameI (yl_move rfl hx281 ⟨fun _ _ => rfl, rfl⟩))
                    · intro L282 w283 hi284
                      have hE285 := hi284.ex
                      have hE285z := Ex.size hE285
                      obtain ⟨_, _, _, hx286, -, -, -, rfl⟩ := hi284.dep 23 52 rfl rfl
                      have hx287 := hi284.old 1 _ rfl rfl
                      exact OpR.want rfl rfl hx286 hb122 (Yl.sameI (yl_fieldAddr Try.fd35_2 rfl hx287 ⟨fun _ _ => rfl, rfl⟩))
                    · intro L288 w289 hi290
                      have hE291 := hi290.ex
                      have hE291z := Ex.size hE291
                      obtain ⟨_, _, _, hx292, -, -, -, rfl⟩ := hi290.dep 23 52 rfl rfl
                      obtain ⟨_, _, _, hx293, -, -, -, rfl⟩ := hi290.dep 24 53 rfl rfl
                      have q294 := Box.ex q125 hE291
                      exact OpR.want rfl rfl hx292 hb122 (Yl.sameI (yl_load1 Try.ty33 rfl hx293 ((q294.cell 2).trans rfl) ⟨fun _ _ => rfl, rfl⟩))
                    · intro L295 w296 hi297
                      have hE298 := hi297.ex
                      have hE298z := Ex.size hE298
                      obtain ⟨_, _, _, hx299, -, -, -, rfl⟩ := hi297.dep 23 52 rfl rfl
                      have hx300 := hi297.old 3 _ rfl rfl
                      exact OpR.want rfl rfl hx299 hb122 (Yl.sameI (yl_move rfl hx300 ⟨fun _ _ => rfl, rfl⟩))
                    · intro L301 w302 hi303
                      have hE304 := hi303.ex
                      have hE304z := Ex.size hE304
                      obtain ⟨_, _, _, hx305, -, -, -, rfl⟩ := hi303.dep 23 52 rfl rfl
                      obtain ⟨_, _, _, hx306, -, -, -, rfl⟩ := hi303.dep 26 55 rfl rfl
                      exact OpR.want rfl rfl hx305 hb122 (Yl.sameI (yl_sub rfl hx306 rfl ⟨fun _ _ => rfl, rfl⟩))
                    · intro L307 w308 hi309
                      have hE310 := hi309.ex
                      have hE310z := Ex.size hE310
                      obtain ⟨_, _, _, hx311, -, -, -, rfl⟩ := hi309.dep 23 52 rfl rfl
                      obtain ⟨_, _, _, hx312, -, -, -, rfl⟩ := hi309.dep 25 54 rfl rfl
                      obtain ⟨_, _, _, hx313, -, -, -, rfl⟩ := hi309.dep 27 56 rfl rfl
                      exact OpR.want rfl rfl hx311 hb122 (Yl.sameI (yl_indexAddr Try.un33 Try.ty132 rfl hx312 hx313 eA130 (by first | omega | assumption | (simp only [IntKind.wrap_i64] at *; omega)) (by first | omega | assumption | (simp only [IntKind.wrap_i64] at *; omega)) ⟨fun _ _ => rfl, rfl⟩))
                    · intro L314 w315 hi316
                      have hE317 := hi316.ex
                      have hE317z := Ex.size hE317
                      obtain ⟨_, _, _, hx318, -, -, -, rfl⟩ := hi316.dep 23 52 rfl rfl
                      obtain ⟨_, _, _, hx319, -, -, -, rfl⟩ := hi316.dep 28 57 rfl rfl
                      exact OpR.want rfl rfl hx318 hb122 (Yl.sameI (yl_fieldAddr Try.fd132_0 rfl hx319 ⟨fun _ _ => rfl, rfl⟩))
                    · intro L320 w321 hi322
                      have hE323 := hi322.ex
                      have hE323z := Ex.size hE323
                      obtain ⟨_, _, _, hx324, -, -, -, rfl⟩ := hi322.dep 23 52 rfl rfl
                      obtain ⟨_, _, _, hx325, -, -, -, rfl⟩ := hi322.dep 29 58 rfl rfl
                      have q326 := Cells.ex eC130 hE323
                      exact OpR.want rfl rfl hx324 hb122 (Yl.sameI (yl_load1 Try.ty9 rfl hx325 (q326 0 _ rfl) ⟨fun _ _ => rfl, rfl⟩))
                    · intro L327 w328 hi329
                      have hE330 := hi329.ex
                      have hE330z := Ex.size hE330
                      obtain ⟨_, _, _, hx331, -, -, -, rfl⟩ := hi329.dep 23 52 rfl rfl
                      have hx332 := hi329.old 4 _ rfl rfl
                      exact OpR.want rfl rfl hx331 hb122 (Yl.sameI (yl_fieldAddr Try.fd132_0 rfl hx332 ⟨fun _ _ => rfl, rfl⟩))
                    · intro L333 w334 hi335
                      have hE336 := hi335.ex
                      have hE336z := Ex.size hE336
                      obtain ⟨_, _, _, hx337, -, -, -, rfl⟩ := hi335.dep 23 52 rfl rfl
                      obtain ⟨_, _, _, hx338, -, -, -, rfl⟩ := hi335.dep 31 60 rfl rfl
                      have q339 := Box.ex hB102 hE336
                      exact OpR.want rfl rfl hx337 hb122 (Yl.sameI (yl_load1 Try.ty9 rfl hx338 ((q339.cell 0).trans rfl) ⟨fun _ _ => rfl, rfl⟩))
                    · intro L340 w341 hi342
                      have hE343 := hi342.ex
                      have hE343z := Ex.size hE343
                      obtain ⟨_, _, _, hx344, -, -, -, rfl⟩ := hi342.dep 23 52 rfl rfl
                      obtain ⟨_, _, _, hx345, -, -, -, rfl⟩ := hi342.dep 30 59 rfl rfl
                      obtain ⟨_, _, _, hx346, -, -, -, rfl⟩ := hi342.dep 32 61 rfl rfl
                      exact OpR.want rfl rfl hx344 hb122 (Yl.sameI (yl_sgeq (a := ((p_0.Idxs.getD ((IntKind.wrap .i64 ((k30 : Int) - 1)).toNat) d_Idx).Name)) (b := ((p_0.Idxs.getD k30 d_Idx).Name)) rfl hx345 hx346 ⟨fun _ _ => rfl, rfl⟩))
                    · intro L347 w348 hi349
                      have hE350 := hi349.ex
                      have hE350z := Ex.size hE350
                      obtain ⟨_, _, _, hx351, -, -, -, rfl⟩ := hi349.dep 20 49 rfl rfl
                      obtain ⟨_, _, _, hx352, -, -, -, rfl⟩ := hi349.dep 33 62 rfl rfl
                      obtain ⟨_, _, _, hx353, -, -, -, rfl⟩ := hi349.dep 23 52 rfl rfl
                      exact OpR.want rfl rfl hx351 (not_t hb116) (Yl.sameI (yl_pick_t rfl hx353 hb122 hx352 ⟨fun _ _ => rfl, rfl⟩))
                    · intro L354 w355 hi356
                      have hE357 := hi356.ex
                      have hE357z := Ex.size hE357
                      obtain ⟨_, _, _, hx358, -, -, -, rfl⟩ := hi356.dep 34 63 rfl rfl
                      obtain ⟨_, _, _, hx359, -, -, -, rfl⟩ := hi356.dep 20 49 rfl rfl
                      exact OpR.op' rfl (Yl.sameI (yl_pick_f rfl hx359 (not_t hb116) hx358 ⟨fun _ _ => rfl, rfl⟩))
                    · intro fl363 fh364 L360 w361 hp362
                      have hE365 := hp362.ex
                      have hE365z := Ex.size hE365
                      have hx366 := hp362.old 1 _ rfl rfl
                      have hx367 := hp362.old 22 _ rfl rfl
                      have hx368 := hp362.old 23 _ rfl rfl
                      have hx369 := hp362.old 24 _ rfl rfl
                      obtain ⟨_, hx370, rfl⟩ := hp362.new 5 34 rfl rfl
                      obtain ⟨_, hx371, rfl⟩ := hp362.new 6 35 rfl rfl
                      obtain ⟨_, hx372, rfl⟩ := hp362.new 7 36 rfl rfl
                      obtain ⟨_, hx373, rfl⟩ := hp362.new 8 37 rfl rfl
                      obtain ⟨_, hx374, rfl⟩ := hp362.new 9 38 rfl rfl
                      obtain ⟨_, hx375, rfl⟩ := hp362.new 10 39 rfl rfl
                      obtain ⟨_, hx376, rfl⟩ := hp362.new 11 40 rfl rfl
                      obtain ⟨_, hx377, rfl⟩ := hp362.new 12 41 rfl rfl
                      obtain ⟨_, hx378, rfl⟩ := hp362.new 15 44 rfl rfl
                      obtain ⟨_, hx379, rfl⟩ := hp362.new 16 45 rfl rfl
                      obtain ⟨_, hx380, rfl⟩ := hp362.new 17 46 rfl rfl
                      obtain ⟨_, hx381, rfl⟩ := hp362.new 18 47 rfl rfl
                      obtain ⟨_, hx382, rfl⟩ := hp362.new 21 50 rfl rfl
                      obtain ⟨_, hx383, rfl⟩ := hp362.new 22 51 rfl rfl
                      obtain ⟨_, hx384, rfl⟩ := hp362.new 23 52 rfl rfl
                      obtain ⟨_, hx385, rfl⟩ := hp362.new 24 53 rfl rfl
                      obtain ⟨_, hx386, rfl⟩ := hp362.new 25 54 rfl rfl
                      obtain ⟨_, hx387, rfl⟩ := hp362.new 26 55 rfl rfl
                      obtain ⟨_, hx388, rfl⟩ := hp362.new 27 56 rfl rfl
                      obtain ⟨_, hx389, rfl⟩ := hp362.new 28 57 rfl rfl
                      obtain ⟨_, hx390, rfl⟩ := hp362.new 29 58 rfl rfl
                      obtain ⟨_, hx391, rfl⟩ := hp362.new 30 59 rfl rfl
                      obtain ⟨_, hx392, rfl⟩ := hp362.new 31 60 rfl rfl
                      obtain ⟨_, hx393, rfl⟩ := hp362.new 32 61 rfl rfl
                      obtain ⟨_, hx394, rfl⟩ := hp362.new 33 62 rfl rfl
                      obtain ⟨_, hx395, rfl⟩ := hp362.new 34 63 rfl rfl
                      obtain ⟨_, hx396, rfl⟩ := hp362.new 35 64 rfl rfl
                      refine SeqR.done ?_
                      refine tn ?_
                      refine CW.sub (Sub.cons (d := 1) hx366 (Sub.cons (d := 22) hx367 (Sub.cons (d := 23) hx368 (Sub.cons (d := 24) hx369 (Sub.cons (d := 34) hx370 (Sub.cons (d := 35) hx371 (Sub.cons (d := 36) hx372 (Sub.cons (d := 37) hx373 (Sub.cons (d := 38) hx374 (Sub.cons (d := 39) hx375 (Sub.cons (d := 40) hx376 (Sub.cons (d := 41) hx377 (Sub.cons (d := 44) hx378 (Sub.cons (d := 45) hx379 (Sub.cons (d := 46) hx380 (Sub.cons (d := 47) hx381 (Sub.cons (d := 50) hx382 (Sub.cons (d := 51) hx383 (Sub.cons (d := 52) hx384 (Sub.cons (d := 53) hx385 (Sub.cons (d := 54) hx386 (Sub.cons (d := 55) hx387 (Sub.cons (d := 56) hx388 (Sub.cons (d := 57) hx389 (Sub.cons (d := 58) hx390 (Sub.cons (d := 59) hx391 (Sub.cons (d := 60) hx392 (Sub.cons (d := 61) hx393 (Sub.cons (d := 62) hx394 (Sub.cons (d := 63) hx395 (Sub.cons (d := 64) hx396 (Sub.nil _)))))))))))))))))))))))))))))))) ?_
                      refine bcase (sLt ((p_0.Idxs.getD ((IntKind.wrap .i64 ((k30 : Int) - 1)).toNat) d_Idx).Name) ((p_0.Idxs.getD k30 d_Idx).Name)) (fun hb397 => ?_) (fun hb397 => ?_)
                      · skip
                        refine CW.cond_f rfl (not_t hb397) ?_
                        refine CW.skip ?_
                        refine bn ?_
                        refine tn ?_
                        refine CW.region ?_
                        refine SeqR.d1 rfl rfl rfl (yl_inc rfl rfl rfl (by omega) ?_)
                        refine SeqR.d1 rfl rfl rfl (yl_move rfl rfl ?_)
                        refine SeqR.done ?_
                        refine tn ?_
                        have hB398 : B_s_GoodTable_0 p_0 k30 () = .cont () := by simp only [B_s_GoodTable_0, hb16, hb23, hb25, hb105, hb110, hb116, hb122, hb397, cond_true, cond_false, loopE_done, loopE_ret]
                        have q399 := Box.ex q125 hE365
                        have q400 := RdS.ex good_Str hf89 hE100
                        have q401 := RdS.only good_Str q400 hO103 (by simp only [Iv]; omega)
                        have q402 := RdS.ex good_Str q401 hE365
                        have q403 := RdS.ex good_Idx q129 hE365
                        have q404 := Ex.trans hf91 hE100
                        have q405 := Below.only q404 hO103 (by omega)
                        have q406 := Ex.trans q405 hE365
                        exact ⟨p_0.Idxs.length - (k30 + 1), by omega, k30 + 1, rfl, hlt93, (by omega), rfl, rfl, rfl, rfl, q399, q402, q403, q406, (loopM.cont hlt93 hB398).symm.trans hI82⟩
                      · skip
                        refine CW.cond_t rfl (not_f hb397) ?_
                        refine CW.seq ?_
                        refine CW.region ?_
                        refine SeqR.d1 rfl rfl rfl (yl_assign rfl rfl ?_)
                        refine SeqR.done ?_
                        refine tn ?_
                        refine CW.ret ?_
                        refine br ?_
                        refine tr ?_
                        refine tr ?_
                        have hB408 : B_s_GoodTable_0 p_0 k30 () = .ret false := by simp only [B_s_GoodTable_0, hb16, hb23, hb25, hb105, hb110, hb116, hb122, hb397, cond_true, cond_false, loopE_done, loopE_ret]
                        have hL407 : loopM (B_s_GoodTable_0 p_0) (p_0.Idxs.length - 0) 0 () = .ret false := hI82.symm.trans (loopM.ret hlt93 hB408)
                        refine br ?_
                        refine tr ?_
                        refine rr rfl (.cons rfl .nil) ?_
                        have hM409 : (s_GoodTable p_0) = (false) := by simp only [s_GoodTable, hb16, hb23, hb25, hb105, hb110, hb116, hb122, hb397, hL407, cond_true, cond_false, loopE_done, loopE_ret]
                        rw [hM409]
                        have q410 := Ex.trans hf91 hE100
                        have q411 := Below.only q410 hO103 (by omega)
                        have q412 := Ex.trans q411 hE365
                        exact ⟨rfl, q412⟩
                  · have hb122p := dec_f hb122
                    have q414 := Box.ex hf88 hE100
                    have q415 := Box.only q414 hO103 (by omega)
                    refine CW.drawsI 36 (vgetI [DetI (.pointer (some ⟨b95, 0 + 0, none⟩)), DetI (.string (bs ((p_0.Idxs.getD k30 d_Idx).Name))), DetI (.bool ((s_l24Letters ((p_0.Idxs.getD k30 d_Idx).Name) 1))), DetI (.bool (!(s_l24Letters ((p_0.Idxs.getD k30 d_Idx).Name) 1))), DetI (.bool (!(s_l24Letters ((p_0.Idxs.getD k30 d_Idx).Name) 1))), DetI (.pointer (some ⟨b95, 0 + 1, none⟩)), DetI (.int .i64 ((p_0.Idxs.getD k30 d_Idx).Col)), DetI (.pointer (some ⟨b7, 0 + 1, none⟩)), DetI (.slice A1 p_0.Cols.length c1), DetI (.int .i64 ((p_0.Cols.length : Int))), DetI (.int .i64 (IntKind.wrap .i64 ((p_0.Cols.length : Int) - 1))), DetI (.bool ((s_l1In ((p_0.Idxs.getD k30 d_Idx).Col) 1 (IntKind.wrap .i64 ((p_0.Cols.length : Int) - 1))))), DetI (.bool (!(s_l1In ((p_0.Idxs.getD k30 d_Idx).Col) 1 (IntKind.wrap .i64 ((p_0.Cols.length : Int) - 1))))), DetI (.bool (!(s_l1In ((p_0.Idxs.getD k30 d_Idx).Col) 1 (IntKind.wrap .i64 ((p_0.Cols.length : Int) - 1))))), DetI (.bool (!(s_l1In ((p_0.Idxs.getD k30 d_Idx).Col) 1 (IntKind.wrap .i64 ((p_0.Cols.length : Int) - 1))))), DetI (.pointer (some ⟨b95, 0 + 2, none⟩)), DetI (.int .i64 ((p_0.Idxs.getD k30 d_Idx).Stage)), DetI (.bool ((s_l1In ((p_0.Idxs.getD k30 d_Idx).Stage) 0 3))), DetI (.bool (!(s_l1In ((p_0.Idxs.getD k30 d_Idx).Stage) 0 3))), DetI (.bool (!(s_l1In ((p_0.Idxs.getD k30 d_Idx).Stage) 0 3))), DetI (.bool (!(s_l1In ((p_0.Idxs.getD k30 d_Idx).Stage) 0 3))), DetI (.int .i64 ((k30 : Int))), DetI (.bool (decide (0 < (k30 : Int)))), DetI (.bool (decide (0 < (k30 : Int)))), DetI (undef), DetI (undef), DetI (undef), DetI (undef), DetI (undef), DetI (undef), DetI (undef), DetI (undef), DetI (undef), DetI (undef), DetI (.bool (false)), DetI (.bool (false))]) Try.follows rfl rfl rfl rfl rfl rfl (vgetI_stable ⟨StableI.det _, StableI.det _, StableI.det _, StableI.det _, StableI.det _, StableI.det _, StableI.det _, StableI.det _, StableI.det _, StableI.det _, StableI.det _, StableI.det _, StableI.det _, StableI.det _, StableI.det _, StableI.det _, StableI.det _, StableI.det _, StableI.det _, StableI.det _, StableI.det _, StableI.det _, StableI.det _, StableI.det _, StableI.det _, StableI.det _, StableI.det _, StableI.det _, StableI.det _, StableI.det _, StableI.det _, StableI.det _, StableI.det _, StableI.det _, StableI.det _, StableI.det _, trivial⟩) ⟨?_, ?_, ?_, ?_, ?_, ?_, ?_, ?_, ?_, ?_, ?_, ?_, ?_, ?_, ?_, ?_, ?_, ?_, ?_, ?_, ?_, ?_, ?_, ?_, ?_, ?_, ?_, ?_, ?_, ?_, ?_, ?_, ?_, ?_, ?_, ?_, trivial⟩ ?_
                    · intro L418 w419 hi420
                      have hE421 := hi420.ex
                      have hE421z := Ex.size hE421
                      have hx422 := hi420.old 4 _ rfl rfl
                      exact OpR.op' rfl (Yl.sameI (yl_fieldAddr Try.fd132_0 rfl hx422 ⟨fun _ _ => rfl, rfl⟩))
                    · intro L423 w424 hi425
                      have hE426 := hi425.ex
                      have hE426z := Ex.size hE426
                      obtain ⟨_, _, _, hx427, -, -, -, rfl⟩ := hi425.dep 0 29 rfl rfl
                      have q428 := Box.ex hB102 hE426
                      exact OpR.op' rfl (Yl.sameI (yl_load1 Try.ty9 rfl hx427 ((q428.cell 0).trans rfl) ⟨fun _ _ => rfl, rfl⟩))
                    · intro L429 w430 hi431
                      have hE432 := hi431.ex
                      have hE432z := Ex.size hE432
                      obtain ⟨_, _, _, hx433, -, -, -, rfl⟩ := hi431.dep 1 30 rfl rfl
                      refine OpR.op' rfl (yl_call Try.en139 rfl (opvs_cons hx433 (opvs_cons rfl opvs_nil)) (Cal.mono (c_s_l24Letters ((p_0.Idxs.getD k30 d_Idx).Name) 1 (okL.getD o3.2.2 ok_d_Idx _)) ?_))
                      rintro v435 w434 ⟨rfl, hE436⟩
                      exact ⟨rfl, hE436⟩
                    · intro L437 w438 hi439
                      have hE440 := hi439.ex
                      have hE440z := Ex.size hE440
                      obtain ⟨_, _, _, hx441, -, -, -, rfl⟩ := hi439.dep 2 31 rfl rfl
                      exact OpR.op' rfl (Yl.sameI (yl_not rfl hx441 ⟨fun _ _ => rfl, rfl⟩))
                    · intro L442 w443 hi444
                      have hE445 := hi444.ex
                      have hE445z := Ex.size hE445
                      obtain ⟨_, _, _, hx446, -, -, -, rfl⟩ := hi444.dep 3 32 rfl rfl
                      exact OpR.op' rfl (Yl.sameI (yl_move rfl hx446 ⟨fun _ _ => rfl, rfl⟩))
                    · intro L447 w448 hi449
                      have hE450 := hi449.ex
                      have hE450z := Ex.size hE450
                      obtain ⟨_, _, _, hx451, -, -, -, rfl⟩ := hi449.dep 4 33 rfl rfl
                      have hx452 := hi449.old 4 _ rfl rfl
                      exact OpR.want rfl rfl hx451 (not_t hb105) (Yl.sameI (yl_fieldAddr Try.fd132_1 rfl hx452 ⟨fun _ _ => rfl, rfl⟩))
                    · intro L453 w454 hi455
                      have hE456 := hi455.ex
                      have hE456z := Ex.size hE456
                      obtain ⟨_, _, _, hx457, -, -, -, rfl⟩ := hi455.dep 4 33 rfl rfl
                      obtain ⟨_, _, _, hx458, -, -, -, rfl⟩ := hi455.dep 5 34 rfl rfl
                      have q459 := Box.ex hB102 hE456
                      exact OpR.want rfl rfl hx457 (not_t hb105) (Yl.sameI (yl_load1 Try.ty3 rfl hx458 ((q459.cell 1).trans rfl) ⟨fun _ _ => rfl, rfl⟩))
                    · intro L460 w461 hi462
                      have hE463 := hi462.ex
                      have hE463z := Ex.size hE463
                      obtain ⟨_, _, _, hx464, -, -, -, rfl⟩ := hi462.dep 4 33 rfl rfl
                      have hx465 := hi462.old 1 _ rfl rfl
                      exact OpR.want rfl rfl hx464 (not_t hb105) (Yl.sameI (yl_fieldAddr Try.fd35_1 rfl hx465 ⟨fun _ _ => rfl, rfl⟩))
                    · intro L466 w467 hi468
                      have hE469 := hi468.ex
                      have hE469z := Ex.size hE469
                      obtain ⟨_, _, _, hx470, -, -, -, rfl⟩ := hi468.dep 4 33 rfl rfl
                      obtain ⟨_, _, _, hx471, -, -, -, rfl⟩ := hi468.dep 7 36 rfl rfl
                      have q472 := Box.ex q415 hE469
                      exact OpR.want rfl rfl hx470 (not_t hb105) (Yl.sameI (yl_load1 Try.ty22 rfl hx471 ((q472.cell 1).trans rfl) ⟨fun _ _ => rfl, rfl⟩))
                    · intro L473 w474 hi475
                      have hE476 := hi475.ex
                      have hE476z := Ex.size hE476
                      obtain ⟨_, _, _, hx477, -, -, -, rfl⟩ := hi475.dep 4 33 rfl rfl
                      obtain ⟨_, _, _, hx478, -, -, -, rfl⟩ := hi475.dep 8 37 rfl rfl
                      exact OpR.want rfl rfl hx477 (not_t hb105) (Yl.sameI (yl_len Try.un22 rfl hx478 ⟨fun _ _ => rfl, rfl⟩))
                    · intro L479 w480 hi481
                      have hE482 := hi481.ex
                      have hE482z := Ex.size hE482
                      obtain ⟨_, _, _, hx483, -, -, -, rfl⟩ := hi481.dep 4 33 rfl rfl
                      obtain ⟨_, _, _, hx484, -, -, -, rfl⟩ := hi481.dep 9 38 rfl rfl
                      exact OpR.want rfl rfl hx483 (not_t hb105) (Yl.sameI (yl_sub rfl hx484 rfl ⟨fun _ _ => rfl, rfl⟩))
                    · intro L485 w486 hi487
                      have hE488 := hi487.ex
                      have hE488z := Ex.size hE488
                      obtain ⟨_, _, _, hx489, -, -, -, rfl⟩ := hi487.dep 4 33 rfl rfl
                      obtain ⟨_, _, _, hx490, -, -, -, rfl⟩ := hi487.dep 6 35 rfl rfl
                      obtain ⟨_, _, _, hx491, -, -, -, rfl⟩ := hi487.dep 10 39 rfl rfl
                      refine OpR.want rfl rfl hx489 (not_t hb105) (yl_call Try.en124 rfl (opvs_cons hx490 (opvs_cons rfl (opvs_cons hx491 opvs_nil))) (Cal.mono (c_s_l1In ((p_0.Idxs.getD k30 d_Idx).Col) 1 (IntKind.wrap .i64 ((p_0.Cols.length : Int) - 1))) ?_))
                      rintro v493 w492 ⟨rfl, hE494⟩
                      exact ⟨rfl, hE494⟩
                    · intro L495 w496 hi497
                      have hE498 := hi497.ex
                      have hE498z := Ex.size hE498
                      obtain ⟨_, _, _, hx499, -, -, -, rfl⟩ := hi497.dep 4 33 rfl rfl
                      obtain ⟨_, _, _, hx500, -, -, -, rfl⟩ := hi497.dep 11 40 rfl rfl
                      exact OpR.want rfl rfl hx499 (not_t hb105) (Yl.sameI (yl_not rfl hx500 ⟨fun _ _ => rfl, rfl⟩))
                    · intro L501 w502 hi503
                      have hE504 := hi503.ex
                      have hE504z := Ex.size hE504
                      obtain ⟨_, _, _, hx505, -, -, -, rfl⟩ := hi503.dep 12 41 rfl rfl
                      obtain ⟨_, _, _, hx506, -, -, -, rfl⟩ := hi503.dep 4 33 rfl rfl
                      exact OpR.op' rfl (Yl.sameI (yl_pick_f rfl hx506 (not_t hb105) hx505 ⟨fun _ _ => rfl, rfl⟩))
                    · intro L507 w508 hi509
                      have hE510 := hi509.ex
                      have hE510z := Ex.size hE510
                      obtain ⟨_, _, _, hx511, -, -, -, rfl⟩ := hi509.dep 13 42 rfl rfl
                      exact OpR.op' rfl (Yl.sameI (yl_move rfl hx511 ⟨fun _ _ => rfl, rfl⟩))
                    · intro L512 w513 hi514
                      have hE515 := hi514.ex
                      have hE515z := Ex.size hE515
                      obtain ⟨_, _, _, hx516, -, -, -, rfl⟩ := hi514.dep 14 43 rfl rfl
                      have hx517 := hi514.old 4 _ rfl rfl
                      exact OpR.want rfl rfl hx516 (not_t hb110) (Yl.sameI (yl_fieldAddr Try.fd132_2 rfl hx517 ⟨fun _ _ => rfl, rfl⟩))
                    · intro L518 w519 hi520
                      have hE521 := hi520.ex
                      have hE521z := Ex.size hE521
                      obtain ⟨_, _, _, hx522, -, -, -, rfl⟩ := hi520.dep 14 43 rfl rfl
                      obtain ⟨_, _, _, hx523, -, -, -, rfl⟩ := hi520.dep 15 44 rfl rfl
                      have q524 := Box.ex hB102 hE521
                      exact OpR.want rfl rfl hx522 (not_t hb110) (Yl.sameI (yl_load1 Try.ty3 rfl hx523 ((q524.cell 2).trans rfl) ⟨fun _ _ => rfl, rfl⟩))
                    · intro L525 w526 hi527
                      have hE528 := hi527.ex
                      have hE528z := Ex.size hE528
                      obtain ⟨_, _, _, hx529, -, -, -, rfl⟩ := hi527.dep 14 43 rfl rfl
                      obtain ⟨_, _, _, hx530, -, -, -, rfl⟩ := hi527.dep 16 45 rfl rfl
                      refine OpR.want rfl rfl hx529 (not_t hb110) (yl_call Try.en124 rfl (opvs_cons hx530 (opvs_cons rfl (opvs_cons rfl opvs_nil))) (Cal.mono (c_s_l1In ((p_0.Idxs.getD k30 d_Idx).Stage) 0 3) ?_))
                      rintro v532 w531 ⟨rfl, hE533⟩
                      exact ⟨rfl, hE533⟩
                    · intro L534 w535 hi536
                      have hE537 := hi536.ex
                      have hE537z := Ex.size hE537
                      obtain ⟨_, _, _, hx538, -, -, -, rfl⟩ := hi536.dep 14 43 rfl rfl
                      obtain ⟨_, _, _, hx539, -, -, -, rfl⟩ := hi536.dep 17 46 rfl rfl
                      exact OpR.want rfl rfl hx538 (not_t hb110) (Yl.sameI (yl_not rfl hx539 ⟨fun _ _ => rfl, rfl⟩))
                    · intro L540 w541 hi542
                      have hE543 := hi542.ex
                      have hE543z := Ex.size hE543
                      obtain ⟨_, _, _, hx544, -, -, -, rfl⟩ := hi542.dep 18 47 rfl rfl
                      obtain ⟨_, _, _, hx545, -, -, -, rfl⟩ := hi542.dep 14 43 rfl rfl
                      exact OpR.op' rfl (Yl.sameI (yl_pick_f rfl hx545 (not_t hb110) hx544 ⟨fun _ _ => rfl, rfl⟩))
                    · intro L546 w547 hi548
                      have hE549 := hi548.ex
                      have hE549z := Ex.size hE549
                      obtain ⟨_, _, _, hx550, -, -, -, rfl⟩ := hi548.dep 19 48 rfl rfl
                      exact OpR.op' rfl (Yl.sameI (yl_move rfl hx550 ⟨fun _ _ => rfl, rfl⟩))
                    · intro L551 w552 hi553
                      have hE554 := hi553.ex
                      have hE554z := Ex.size hE554
                      obtain ⟨_, _, _, hx555, -, -, -, rfl⟩ := hi553.dep 20 49 rfl rfl
                      have hx556 := hi553.old 3 _ rfl rfl
                      exact OpR.want rfl rfl hx555 (not_t hb116) (Yl.sameI (yl_move rfl hx556 ⟨fun _ _ => rfl, rfl⟩))
                    · intro L557 w558 hi559
                      have hE560 := hi559.ex
                      have hE560z := Ex.size hE560
                      obtain ⟨_, _, _, hx561, -, -, -, rfl⟩ := hi559.dep 20 49 rfl rfl
                      obtain ⟨_, _, _, hx562, -, -, -, rfl⟩ := hi559.dep 21 50 rfl rfl
                      exact OpR.want rfl rfl hx561 (not_t hb116) (Yl.sameI (yl_gtr rfl hx562 rfl ⟨fun _ _ => rfl, rfl⟩))
                    · intro L563 w564 hi565
                      have hE566 := hi565.ex
                      have hE566z := Ex.size hE566
                      obtain ⟨_, _, _, hx567, -, -, -, rfl⟩ := hi565.dep 20 49 rfl rfl
                      obtain ⟨_, _, _, hx568, -, -, -, rfl⟩ := hi565.dep 22 51 rfl rfl
                      exact OpR.want rfl rfl hx567 (not_t hb116) (Yl.sameI (yl_move rfl hx568 ⟨fun _ _ => rfl, rfl⟩))
                    · intro L569 w570 hi571
                      have hE572 := hi571.ex
                      have hE572z := Ex.size hE572
                      obtain ⟨_, _, _, hx573, -, -, -, rfl⟩ := hi571.dep 23 52 rfl rfl
                      exact OpR.skip rfl rfl hx573 hb122 ⟨rfl, Ex.refl _⟩
                    · intro L574 w575 hi576
                      have hE577 := hi576.ex
                      have hE577z := Ex.size hE577
                      obtain ⟨_, _, _, hx578, -, -, -, rfl⟩ := hi576.dep 23 52 rfl rfl
                      exact OpR.skip rfl rfl hx578 hb122 ⟨rfl, Ex.refl _⟩
                    · intro L579 w580 hi581
                      have hE582 := hi581.ex
                      have hE582z := Ex.size hE582
                      obtain ⟨_, _, _, hx583, -, -, -, rfl⟩ := hi581.dep 23 52 rfl rfl
                      exact OpR.skip rfl rfl hx583 hb122 ⟨rfl, Ex.refl _⟩
                    · intro L584 w585 hi586
                      have hE587 := hi586.ex
                      have hE587z := Ex.size hE587
                      obtain ⟨_, _, _, hx588, -, -, -, rfl⟩ := hi586.dep 23 52 rfl rfl
                      exact OpR.skip rfl rfl hx588 hb122 ⟨rfl, Ex.refl _⟩
                    · intro L589 w590 hi591
                      have hE592 := hi591.ex
                      have hE592z := Ex.size hE592
                      obtain ⟨_, _, _, hx593, -, -, -, rfl⟩ := hi591.dep 23 52 rfl rfl
                      exact OpR.skip rfl rfl hx593 hb122 ⟨rfl, Ex.refl _⟩
                    · intro L594 w595 hi596
                      have hE597 := hi596.ex
                      have hE597z := Ex.size hE597
                      obtain ⟨_, _, _, hx598, -, -, -, rfl⟩ := hi596.dep 23 52 rfl rfl
                      exact OpR.skip rfl rfl hx598 hb122 ⟨rfl, Ex.refl _⟩
                    · intro L599 w600 hi601
                      have hE602 := hi601.ex
                      have hE602z := Ex.size hE602
                      obtain ⟨_, _, _, hx603, -, -, -, rfl⟩ := hi601.dep 23 52 rfl rfl
                      exact OpR.skip rfl rfl hx603 hb122 ⟨rfl, Ex.refl _⟩
                    · intro L604 w605 hi606
                      have hE607 := hi606.ex
                      have hE607z := Ex.size hE607
                      obtain ⟨_, _, _, hx608, -, -, -, rfl⟩ := hi606.dep 23 52 rfl rfl
                      exact OpR.skip rfl rfl hx608 hb122 ⟨rfl, Ex.refl _⟩
                    · intro L609 w610 hi611
                      have hE612 := hi611.ex
                      have hE612z := Ex.size hE612
                      obtain ⟨_, _, _, hx613, -, -, -, rfl⟩ := hi611.dep 23 52 rfl rfl
                      exact OpR.skip rfl rfl hx613 hb122 ⟨rfl, Ex.refl _⟩
                    · intro L614 w615 hi616
                      have hE617 := hi616.ex
                      have hE617z := Ex.size hE617
                      obtain ⟨_, _, _, hx618, -, -, -, rfl⟩ := hi616.dep 23 52 rfl rfl
                      exact OpR.skip rfl rfl hx618 hb122 ⟨rfl, Ex.refl _⟩
                    · intro L619 w620 hi621
                      have hE622 := hi621.ex
                      have hE622z := Ex.size hE622
                      obtain ⟨_, _, _, hx623, -, -, -, rfl⟩ := hi621.dep 20 49 rfl rfl
                      obtain ⟨_, _, _, hx624, -, -, -, rfl⟩ := hi621.dep 33 62 rfl rfl
                      obtain ⟨_, _, _, hx625, -, -, -, rfl⟩ := hi621.dep 23 52 rfl rfl
                      exact OpR.want rfl rfl hx623 (not_t hb116) (Yl.sameI (yl_pick_f rfl hx625 hb122 rfl ⟨fun _ _ => rfl, rfl⟩))
                    · intro L626 w627 hi628
                      have hE629 := hi628.ex
                      have hE629z := Ex.size hE629
                      obtain ⟨_, _, _, hx630, -, -, -, rfl⟩ := hi628.dep 34 63 rfl rfl
                      obtain ⟨_, _, _, hx631, -, -, -, rfl⟩ := hi628.dep 20 49 rfl rfl
                      exact OpR.op' rfl (Yl.sameI (yl_pick_f rfl hx631 (not_t hb116) hx630 ⟨fun _ _ => rfl, rfl⟩))
                    · intro fl635 fh636 L632 w633 hp634
                      have hE637 := hp634.ex
                      have hE637z := Ex.size hE637
                      have hx638 := hp634.old 1 _ rfl rfl
                      have hx639 := hp634.old 22 _ rfl rfl
                      have hx640 := hp634.old 23 _ rfl rfl
                      have hx641 := hp634.old 24 _ rfl rfl
                      obtain ⟨_, hx642, rfl⟩ := hp634.new 5 34 rfl rfl
                      obtain ⟨_, hx643, rfl⟩ := hp634.new 6 35 rfl rfl
                      obtain ⟨_, hx644, rfl⟩ := hp634.new 7 36 rfl rfl
                      obtain ⟨_, hx645, rfl⟩ := hp634.new 8 37 rfl rfl
                      obtain ⟨_, hx646, rfl⟩ := hp634.new 9 38 rfl rfl
                      obtain ⟨_, hx647, rfl⟩ := hp634.new 10 39 rfl rfl
                      obtain ⟨_, hx648, rfl⟩ := hp634.new 11 40 rfl rfl
                      obtain ⟨_, hx649, rfl⟩ := hp634.new 12 41 rfl rfl
                      obtain ⟨_, hx650, rfl⟩ := hp634.new 15 44 rfl rfl
                      obtain ⟨_, hx651, rfl⟩ := hp634.new 16 45 rfl rfl
                      obtain ⟨_, hx652, rfl⟩ := hp634.new 17 46 rfl rfl
                      obtain ⟨_, hx653, rfl⟩ := hp634.new 18 47 rfl rfl
                      obtain ⟨_, hx654, rfl⟩ := hp634.new 21 50 rfl rfl
                      obtain ⟨_, hx655, rfl⟩ := hp634.new 22 51 rfl rfl
                      obtain ⟨_, hx656, rfl⟩ := hp634.new 23 52 rfl rfl
                      obtain ⟨_, hx657, rfl⟩ := hp634.new 24 53 rfl rfl
                      obtain ⟨_, hx658, rfl⟩ := hp634.new 25 54 rfl rfl
                      obtain ⟨_, hx659, rfl⟩ := hp634.new 26 55 rfl rfl
                      obtain ⟨_, hx660, rfl⟩ := hp634.new 27 56 rfl rfl
                      obtain ⟨_, hx661, rfl⟩ := hp634.new 28 57 rfl rfl
                      obtain ⟨_, hx662, rfl⟩ := hp634.new 29 58 rfl rfl
                      obtain ⟨_, hx663, rfl⟩ := hp634.new 30 59 rfl rfl
                      obtain ⟨_, hx664, rfl⟩ := hp634.new 31 60 rfl rfl
                      obtain ⟨_, hx665, rfl⟩ := hp634.new 32 61 rfl rfl
                      obtain ⟨_, hx666, rfl⟩ := hp634.new 33 62 rfl rfl
                      obtain ⟨_, hx667, rfl⟩ := hp634.new 34 63 rfl rfl
                      obtain ⟨_, hx668, rfl⟩ := hp634.new 35 64 rfl rfl
                      refine SeqR.done ?_
                      refine tn ?_
                      refine CW.sub (Sub.cons (d := 1) hx638 (Sub.cons (d := 22) hx639 (Sub.cons (d := 23) hx640 (Sub.cons (d := 24) hx641 (Sub.cons (d := 34) hx642 (Sub.cons (d := 35) hx643 (Sub.cons (d := 36) hx644 (Sub.cons (d := 37) hx645 (Sub.cons (d := 38) hx646 (Sub.cons (d := 39) hx647 (Sub.cons (d := 40) hx648 (Sub.cons (d := 41) hx649 (Sub.cons (d := 44) hx650 (Sub.cons (d := 45) hx651 (Sub.cons (d := 46) hx652 (Sub.cons (d := 47) hx653 (Sub.cons (d := 50) hx654 (Sub.cons (d := 51) hx655 (Sub.cons (d := 52) hx656 (Sub.cons (d := 53) hx657 (Sub.cons (d := 54) hx658 (Sub.cons (d := 55) hx659 (Sub.cons (d := 56) hx660 (Sub.cons (d := 57) hx661 (Sub.cons (d := 58) hx662 (Sub.cons (d := 59) hx663 (Sub.cons (d := 60) hx664 (Sub.cons (d := 61) hx665 (Sub.cons (d := 62) hx666 (Sub.cons (d := 63) hx667 (Sub.cons (d := 64) hx668 (Sub.nil _)))))))))))))))))))))))))))))))) ?_
                      refine CW.cond_f rfl rfl ?_
                      refine CW.skip ?_
                      refine bn ?_
                      refine tn ?_
                      refine CW.region ?_
                      refine SeqR.d1 rfl rfl rfl (yl_inc rfl rfl rfl (by omega) ?_)
                      refine SeqR.d1 rfl rfl rfl (yl_move rfl rfl ?_)
                      refine SeqR.done ?_
                      refine tn ?_
                      have hB669 : B_s_GoodTable_0 p_0 k30 () = .cont () := by simp only [B_s_GoodTable_0, hb16, hb23, hb25, hb105, hb110, hb116, hb122, cond_true, cond_false, loopE_done, loopE_ret]
                      have q670 := Box.ex q415 hE637
                      have q671 := RdS.ex good_Str hf89 hE100
                      have q672 := RdS.only good_Str q671 hO103 (by simp only [Iv]; omega)
                      have q673 := RdS.ex good_Str q672 hE637
                      have q674 := RdS.ex good_Idx hf90 hE100
                      have q675 := RdS.only good_Idx q674 hO103 (by simp only [Iv]; omega)
                      have q676 := RdS.ex good_Idx q675 hE637
                      have q677 := Ex.trans hf91 hE100
                      have q678 := Below.only q677 hO103 (by omega)
                      have q679 := Ex.trans q678 hE637
                      exact ⟨p_0.Idxs.length - (k30 + 1), by omega, k30 + 1, rfl, hlt93, (by omega), rfl, rfl, rfl, rfl, q670, q673, q676, q679, (loopM.cont hlt93 hB669).symm.trans hI82⟩
                · skip
                  have q681 := Box.ex hf88 hE100
                  have q682 := Box.only q681 hO103 (by omega)
                  refine CW.drawsI 36 (vgetI [DetI (.pointer (some ⟨b95, 0 + 0, none⟩)), DetI (.string (bs ((p_0.Idxs.getD k30 d_Idx).Name))), DetI (.bool ((s_l24Letters ((p_0.Idxs.getD k30 d_Idx).Name) 1))), DetI (.bool (!(s_l24Letters ((p_0.Idxs.getD k30 d_Idx).Name) 1))), DetI (.bool (!(s_l24Letters ((p_0.Idxs.getD k30 d_Idx).Name) 1))), DetI (.pointer (some ⟨b95, 0 + 1, none⟩)), DetI (.int .i64 ((p_0.Idxs.getD k30 d_Idx).Col)), DetI (.pointer (some ⟨b7, 0 + 1, none⟩)), DetI (.slice A1 p_0.Cols.length c1), DetI (.int .i64 ((p_0.Cols.length : Int))), DetI (.int .i64 (IntKind.wrap .i64 ((p_0.Cols.length : Int) - 1))), DetI (.bool ((s_l1In ((p_0.Idxs.getD k30 d_Idx).Col) 1 (IntKind.wrap .i64 ((p_0.Cols.length : Int) - 1))))), DetI (.bool (!(s_l1In ((p_0.Idxs.getD k30 d_Idx).Col) 1 (IntKind.wrap .i64 ((p_0.Cols.length : Int) - 1))))), DetI (.bool (!(s_l1In ((p_0.Idxs.getD k30 d_Idx).Col) 1 (IntKind.wrap .i64 ((p_0.Cols.length : Int) - 1))))), DetI (.bool (!(s_l1In ((p_0.Idxs.getD k30 d_Idx).Col) 1 (IntKind.wrap .i64 ((p_0.Cols.length : Int) - 1))))), DetI (.pointer (some ⟨b95, 0 + 2, none⟩)), DetI (.int .i64 ((p_0.Idxs.getD k30 d_Idx).Stage)), DetI (.bool ((s_l1In ((p_0.Idxs.getD k30 d_Idx).Stage) 0 3))), DetI (.bool (!(s_l1In ((p_0.Idxs.getD k30 d_Idx).Stage) 0 3))), DetI (.bool (!(s_l1In ((p_0.Idxs.getD k30 d_Idx).Stage) 0 3))), DetI (.bool (!(s_l1In ((p_0.Idxs.getD k30 d_Idx).Stage) 0 3))), DetI (undef), DetI (undef), DetI (undef), DetI (undef), DetI (undef), DetI (undef), DetI (undef), DetI (undef), DetI (undef), DetI (undef), DetI (undef), DetI (undef), DetI (undef), DetI (undef), DetI (.bool (true))]) Try.follows rfl rfl rfl rfl rfl rfl (vgetI_stable ⟨StableI.det _, StableI.det _, StableI.det _, StableI.det _, StableI.det _, StableI.det _, StableI.det _, StableI.det _, StableI.det _, StableI.det _, StableI.det _, StableI.det _, StableI.det _, StableI.det _, StableI.det _, StableI.det _, StableI.det _, StableI.det _, StableI.det _, StableI.det _, StableI.det _, StableI.det _, StableI.det _, StableI.det _, StableI.det _, StableI.det _, StableI.det _, StableI.det _, StableI.det _, StableI.det _, StableI.det _, StableI.det _, StableI.det _, StableI.det _, StableI.det _, StableI.det _, trivial⟩) ⟨?_, ?_, ?_, ?_, ?_, ?_, ?_, ?_, ?_, ?_, ?_, ?_, ?_, ?_, ?_, ?_, ?_, ?_, ?_, ?_, ?_, ?_, ?_, ?_, ?_, ?_, ?_, ?_, ?_, ?_, ?_, ?_, ?_, ?_, ?_, ?_, trivial⟩ ?_
                  · intro L685 w686 hi687
                    have hE688 := hi687.ex
                    have hE688z := Ex.size hE688
                    have hx689 := hi687.old 4 _ rfl rfl
                    exact OpR.op' rfl (Yl.sameI (yl_fieldAddr Try.fd132_0 rfl hx689 ⟨fun _ _ => rfl, rfl⟩))
                  · intro L690 w691 hi692
                    have hE693 := hi692.ex
                    have hE693z := Ex.size hE693
                    obtain ⟨_, _, _, hx694, -, -, -, rfl⟩ := hi692.dep 0 29 rfl rfl
                    have q695 := Box.ex hB102 hE693
                    exact OpR.op' rfl (Yl.sameI (yl_load1 Try.ty9 rfl hx694 ((q695.cell 0).trans rfl) ⟨fun _ _ => rfl, rfl⟩))
                  · intro L696 w697 hi698
                    have hE699 := hi698.ex
                    have hE699z := Ex.size hE699
                    obtain ⟨_, _, _, hx700, -, -, -, rfl⟩ := hi698.dep 1 30 rfl rfl
                    refine OpR.op' rfl (yl_call Try.en139 rfl (opvs_cons hx700 (opvs_cons rfl opvs_nil)) (Cal.mono (c_s_l24Letters ((p_0.Idxs.getD k30 d_Idx).Name) 1 (okL.getD o3.2.2 ok_d_Idx _)) ?_))
                    rintro v702 w701 ⟨rfl, hE703⟩
                    exact ⟨rfl, hE703⟩
                  · intro L704 w705 hi706
                    have hE707 := hi706.ex
                    have hE707z := Ex.size hE707
                    obtain ⟨_, _, _, hx708, -, -, -, rfl⟩ := hi706.dep 2 31 rfl rfl
                    exact OpR.op' rfl (Yl.sameI (yl_not rfl hx708 ⟨fun _ _ => rfl, rfl⟩))
                  · intro L709 w710 hi711
                    have hE712 := hi711.ex
                    have hE712z := Ex.size hE712
                    obtain ⟨_, _, _, hx713, -, -, -, rfl⟩ := hi711.dep 3 32 rfl rfl
                    exact OpR.op' rfl (Yl.sameI (yl_move rfl hx713 ⟨fun _ _ => rfl, rfl⟩))
                  · intro L714 w715 hi716
                    have hE717 := hi716.ex
                    have hE717z := Ex.size hE717
                    obtain ⟨_, _, _, hx718, -, -, -, rfl⟩ := hi716.dep 4 33 rfl rfl
                    have hx719 := hi716.old 4 _ rfl rfl
                    exact OpR.want rfl rfl hx718 (not_t hb105) (Yl.sameI (yl_fieldAddr Try.fd132_1 rfl hx719 ⟨fun _ _ => rfl, rfl⟩))
                  · intro L720 w721 hi722
                    have hE723 := hi722.ex
                    have hE723z := Ex.size hE723
                    obtain ⟨_, _, _, hx724, -, -, -, rfl⟩ := hi722.dep 4 33 rfl rfl
                    obtain ⟨_, _, _, hx725, -, -, -, rfl⟩ := hi722.dep 5 34 rfl rfl
                    have q726 := Box.ex hB102 hE723
                    exact OpR.want rfl rfl hx724 (not_t hb105) (Yl.sameI (yl_load1 Try.ty3 rfl hx725 ((q726.cell 1).trans rfl) ⟨fun _ _ => rfl, rfl⟩))
                  · intro L727 w728 hi729
                    have hE730 := hi729.ex
                    have hE730z := Ex.size hE730
                    obtain ⟨_, _, _, hx731, -, -, -, rfl⟩ := hi729.dep 4 33 rfl rfl
                    have hx732 := hi729.old 1 _ rfl rfl
                    exact OpR.want rfl rfl hx731 (not_t hb105) (Yl.sameI (yl_fieldAddr Try.fd35_1 rfl hx732 ⟨fun _ _ => rfl, rfl⟩))
                  · intro L733 w734 hi735
                    have hE736 := hi735.ex
                    have hE736z := Ex.size hE736
                    obtain ⟨_, _, _, hx737, -, -, -, rfl⟩ := hi735.dep 4 33 rfl rfl
                    obtain ⟨_, _, _, hx738, -, -, -, rfl⟩ := hi735.dep 7 36 rfl rfl
                    have q739 := Box.ex q682 hE736
                    exact OpR.want rfl rfl hx737 (not_t hb105) (Yl.sameI (yl_load1 Try.ty22 rfl hx738 ((q739.cell 1).trans rfl) ⟨fun _ _ => rfl, rfl⟩))
                  · intro L740 w741 hi742
                    have hE743 := hi742.ex
                    have hE743z := Ex.size hE743
                    obtain ⟨_, _, _, hx744, -, -, -, rfl⟩ := hi742.dep 4 33 rfl rfl
                    obtain ⟨_, _, _, hx745, -, -, -, rfl⟩ := hi742.dep 8 37 rfl rfl
                    exact OpR.want rfl rfl hx744 (not_t hb105) (Yl.sameI (yl_len Try.un22 rfl hx745 ⟨fun _ _ => rfl, rfl⟩))
                  · intro L746 w747 hi748
                    have hE749 := hi748.ex
                    have hE749z := Ex.size hE749
                    obtain ⟨_, _, _, hx750, -, -, -, rfl⟩ := hi748.dep 4 33 rfl rfl
                    obtain ⟨_, _, _, hx751, -, -, -, rfl⟩ := hi748.dep 9 38 rfl rfl
                    exact OpR.want rfl rfl hx750 (not_t hb105) (Yl.sameI (yl_sub rfl hx751 rfl ⟨fun _ _ => rfl, rfl⟩))
                  · intro L752 w753 hi754
                    have hE755 := hi754.ex
                    have hE755z := Ex.size hE755
                    obtain ⟨_, _, _, hx756, -, -, -, rfl⟩ := hi754.dep 4 33 rfl rfl
                    obtain ⟨_, _, _, hx757, -, -, -, rfl⟩ := hi754.dep 6 35 rfl rfl
                    obtain ⟨_, _, _, hx758, -, -, -, rfl⟩ := hi754.dep 10 39 rfl rfl
                    refine OpR.want rfl rfl hx756 (not_t hb105) (yl_call Try.en124 rfl (opvs_cons hx757 (opvs_cons rfl (opvs_cons hx758 opvs_nil))) (Cal.mono (c_s_l1In ((p_0.Idxs.getD k30 d_Idx).Col) 1 (IntKind.wrap .i64 ((p_0.Cols.length : Int) - 1))) ?_))
                    rintro v760 w759 ⟨rfl, hE761⟩
                    exact ⟨rfl, hE761⟩
                  · intro L762 w763 hi764
                    have hE765 := hi764.ex
                    have hE765z := Ex.size hE765
                    obtain ⟨_, _, _, hx766, -, -, -, rfl⟩ := hi764.dep 4 33 rfl rfl
                    obtain ⟨_, _, _, hx767, -, -, -, rfl⟩ := hi764.dep 11 40 rfl rfl
                    exact OpR.want rfl rfl hx766 (not_t hb105) (Yl.sameI (yl_not rfl hx767 ⟨fun _ _ => rfl, rfl⟩))
                  · intro L768 w769 hi770
                    have hE771 := hi770.ex
                    have hE771z := Ex.size hE771
                    obtain ⟨_, _, _, hx772, -, -, -, rfl⟩ := hi770.dep 12 41 rfl rfl
                    obtain ⟨_, _, _, hx773, -, -, -, rfl⟩ := hi770.dep 4 33 rfl rfl
                    exact OpR.op' rfl (Yl.sameI (yl_pick_f rfl hx773 (not_t hb105) hx772 ⟨fun _ _ => rfl, rfl⟩))
                  · intro L774 w775 hi776
                    have hE777 := hi776.ex
                    have hE777z := Ex.size hE777
                    obtain ⟨_, _, _, hx778, -, -, -, rfl⟩ := hi776.dep 13 42 rfl rfl
                    exact OpR.op' rfl (Yl.sameI (yl_move rfl hx778 ⟨fun _ _ => rfl, rfl⟩))
                  · intro L779 w780 hi781
                    have hE782 := hi781.ex
                    have hE782z := Ex.size hE782
                    obtain ⟨_, _, _, hx783, -, -, -, rfl⟩ := hi781.dep 14 43 rfl rfl
                    have hx784 := hi781.old 4 _ rfl rfl
                    exact OpR.want rfl rfl hx783 (not_t hb110) (Yl.sameI (yl_fieldAddr Try.fd132_2 rfl hx784 ⟨fun _ _ => rfl, rfl⟩))
                  · intro L785 w786 hi787
                    have hE788 := hi787.ex
                    have hE788z := Ex.size hE788
                    obtain ⟨_, _, _, hx789, -, -, -, rfl⟩ := hi787.dep 14 43 rfl rfl
                    obtain ⟨_, _, _, hx790, -, -, -, rfl⟩ := hi787.dep 15 44 rfl rfl
                    have q791 := Box.ex hB102 hE788
                    exact OpR.want rfl rfl hx789 (not_t hb110) (Yl.sameI (yl_load1 Try.ty3 rfl hx790 ((q791.cell 2).trans rfl) ⟨fun _ _ => rfl, rfl⟩))
                  · intro L792 w793 hi794
                    have hE795 := hi794.ex
                    have hE795z := Ex.size hE795
                    obtain ⟨_, _, _, hx796, -, -, -, rfl⟩ := hi794.dep 14 43 rfl rfl
                    obtain ⟨_, _, _, hx797, -, -, -, rfl⟩ := hi794.dep 16 45 rfl rfl
                    refine OpR.want rfl rfl hx796 (not_t hb110) (yl_call Try.en124 rfl (opvs_cons hx797 (opvs_cons rfl (opvs_cons rfl opvs_nil))) (Cal.mono (c_s_l1In ((p_0.Idxs.getD k30 d_Idx).Stage) 0 3) ?_))
                    rintro v799 w798 ⟨rfl, hE800⟩
                    exact ⟨rfl, hE800⟩
                  · intro L801 w802 hi803
                    have hE804 := hi803.ex
                    have hE804z := Ex.size hE804
                    obtain ⟨_, _, _, hx805, -, -, -, rfl⟩ := hi803.dep 14 43 rfl rfl
                    obtain ⟨_, _, _, hx806, -, -, -, rfl⟩ := hi803.dep 17 46 rfl rfl
                    exact OpR.want rfl rfl hx805 (not_t hb110) (Yl.sameI (yl_not rfl hx806 ⟨fun _ _ => rfl, rfl⟩))
                  · intro L807 w808 hi809
                    have hE810 := hi809.ex
                    have hE810z := Ex.size hE810
                    obtain ⟨_, _, _, hx811, -, -, -, rfl⟩ := hi809.dep 18 47 rfl rfl
                    obtain ⟨_, _, _, hx812, -, -, -, rfl⟩ := hi809.dep 14 43 rfl rfl
                    exact OpR.op' rfl (Yl.sameI (yl_pick_f rfl hx812 (not_t hb110) hx811 ⟨fun _ _ => rfl, rfl⟩))
                  · intro L813 w814 hi815
                    have hE816 := hi815.ex
                    have hE816z := Ex.size hE816
                    obtain ⟨_, _, _, hx817, -, -, -, rfl⟩ := hi815.dep 19 48 rfl rfl
                    exact OpR.op' rfl (Yl.sameI (yl_move rfl hx817 ⟨fun _ _ => rfl, rfl⟩))
                  · intro L818 w819 hi820
                    have hE821 := hi820.ex
                    have hE821z := Ex.size hE821
                    obtain ⟨_, _, _, hx822, -, -, -, rfl⟩ := hi820.dep 20 49 rfl rfl
                    exact OpR.skip rfl rfl hx822 (not_f hb116) ⟨rfl, Ex.refl _⟩
                  · intro L823 w824 hi825
                    have hE826 := hi825.ex
                    have hE826z := Ex.size hE826
                    obtain ⟨_, _, _, hx827, -, -, -, rfl⟩ := hi825.dep 20 49 rfl rfl
                    exact OpR.skip rfl rfl hx827 (not_f hb116) ⟨rfl, Ex.refl _⟩
                  · intro L828 w829 hi830
                    have hE831 := hi830.ex
                    have hE831z := Ex.size hE831
                    obtain ⟨_, _, _, hx832, -, -, -, rfl⟩ := hi830.dep 20 49 rfl rfl
                    exact OpR.skip rfl rfl hx832 (not_f hb116) ⟨rfl, Ex.refl _⟩
                  · intro L833 w834 hi835
                    have hE836 := hi835.ex
                    have hE836z := Ex.size hE836
                    obtain ⟨_, _, _, hx837, -, -, -, rfl⟩ := hi835.dep 23 52 rfl rfl
                    exact OpR.undef rfl rfl hx837 ⟨rfl, Ex.refl _⟩
                  · intro L838 w839 hi840
                    have hE841 := hi840.ex
                    have hE841z := Ex.size hE841
                    obtain ⟨_, _, _, hx842, -, -, -, rfl⟩ := hi840.dep 23 52 rfl rfl
                    exact OpR.undef rfl rfl hx842 ⟨rfl, Ex.refl _⟩
                  · intro L843 w844 hi845
                    have hE846 := hi845.ex
                    have hE846z := Ex.size hE846
                    obtain ⟨_, _, _, hx847, -, -, -, rfl⟩ := hi845.dep 23 52 rfl rfl
                    exact OpR.undef rfl rfl hx847 ⟨rfl, Ex.refl _⟩
                  · intro L848 w849 hi850
                    have hE851 := hi850.ex
                    have hE851z := Ex.size hE851
                    obtain ⟨_, _, _, hx852, -, -, -, rfl⟩ := hi850.dep 23 52 rfl rfl
                    exact OpR.undef rfl rfl hx852 ⟨rfl, Ex.refl _⟩
                  · intro L853 w854 hi855
                    have hE856 := hi855.ex
                    have hE856z := Ex.size hE856
                    obtain ⟨_, _, _, hx857, -, -, -, rfl⟩ := hi855.dep 23 52 rfl rfl
                    exact OpR.undef rfl rfl hx857 ⟨rfl, Ex.refl _⟩
                  · intro L858 w859 hi860
                    have hE861 := hi860.ex
                    have hE861z := Ex.size hE861
                    obtain ⟨_, _, _, hx862, -, -, -, rfl⟩ := hi860.dep 23 52 rfl rfl
                    exact OpR.undef rfl rfl hx862 ⟨rfl, Ex.refl _⟩
                  · intro L863 w864 hi865
                    have hE866 := hi865.ex
                    have hE866z := Ex.size hE866
                    obtain ⟨_, _, _, hx867, -, -, -, rfl⟩ := hi865.dep 23 52 rfl rfl
                    exact OpR.undef rfl rfl hx867 ⟨rfl, Ex.refl _⟩
                  · intro L868 w869 hi870
                    have hE871 := hi870.ex
                    have hE871z := Ex.size hE871
                    obtain ⟨_, _, _, hx872, -, -, -, rfl⟩ := hi870.dep 23 52 rfl rfl
                    exact OpR.undef rfl rfl hx872 ⟨rfl, Ex.refl _⟩
                  · intro L873 w874 hi875
                    have hE876 := hi875.ex
                    have hE876z := Ex.size hE876
                    obtain ⟨_, _, _, hx877, -, -, -, rfl⟩ := hi875.dep 23 52 rfl rfl
                    exact OpR.undef rfl rfl hx877 ⟨rfl, Ex.refl _⟩
                  · intro L878 w879 hi880
                    have hE881 := hi880.ex
                    have hE881z := Ex.size hE881
                    obtain ⟨_, _, _, hx882, -, -, -, rfl⟩ := hi880.dep 23 52 rfl rfl
                    exact OpR.undef rfl rfl hx882 ⟨rfl, Ex.refl _⟩
                  · intro L883 w884 hi885
                    have hE886 := hi885.ex
                    have hE886z := Ex.size hE886
                    obtain ⟨_, _, _, hx887, -, -, -, rfl⟩ := hi885.dep 20 49 rfl rfl
                    exact OpR.skip rfl rfl hx887 (not_f hb116) ⟨rfl, Ex.refl _⟩
                  · intro L888 w889 hi890
                    have hE891 := hi890.ex
                    have hE891z := Ex.size hE891
                    obtain ⟨_, _, _, hx892, -, -, -, rfl⟩ := hi890.dep 34 63 rfl rfl
                    obtain ⟨_, _, _, hx893, -, -, -, rfl⟩ := hi890.dep 20 49 rfl rfl
                    exact OpR.op' rfl (Yl.sameI (yl_pick_t rfl hx893 (not_f hb116) rfl ⟨fun _ _ => rfl, rfl⟩))
                  · intro fl897 fh898 L894 w895 hp896
                    have hE899 := hp896.ex
                    have hE899z := Ex.size hE899
                    have hx900 := hp896.old 1 _ rfl rfl
                    have hx901 := hp896.old 22 _ rfl rfl
                    have hx902 := hp896.old 23 _ rfl rfl
                    have hx903 := hp896.old 24 _ rfl rfl
                    obtain ⟨_, hx904, rfl⟩ := hp896.new 5 34 rfl rfl
                    obtain ⟨_, hx905, rfl⟩ := hp896.new 6 35 rfl rfl
                    obtain ⟨_, hx906, rfl⟩ := hp896.new 7 36 rfl rfl
                    obtain ⟨_, hx907, rfl⟩ := hp896.new 8 37 rfl rfl
                    obtain ⟨_, hx908, rfl⟩ := hp896.new 9 38 rfl rfl
                    obtain ⟨_, hx909, rfl⟩ := hp896.new 10 39 rfl rfl
                    obtain ⟨_, hx910, rfl⟩ := hp896.new 11 40 rfl rfl
                    obtain ⟨_, hx911, rfl⟩ := hp896.new 12 41 rfl rfl
                    obtain ⟨_, hx912, rfl⟩ := hp896.new 15 44 rfl rfl
                    obtain ⟨_, hx913, rfl⟩ := hp896.new 16 45 rfl rfl
                    obtain ⟨_, hx914, rfl⟩ := hp896.new 17 46 rfl rfl
                    obtain ⟨_, hx915, rfl⟩ := hp896.new 18 47 rfl rfl
                    obtain ⟨_, hx916, rfl⟩ := hp896.new 21 50 rfl rfl
                    obtain ⟨_, hx917, rfl⟩ := hp896.new 22 51 rfl rfl
                    obtain ⟨_, hx918, rfl⟩ := hp896.new 23 52 rfl rfl
                    obtain ⟨_, hx919, rfl⟩ := hp896.new 24 53 rfl rfl
                    obtain ⟨_, hx920, rfl⟩ := hp896.new 25 54 rfl rfl
                    obtain ⟨_, hx921, rfl⟩ := hp896.new 26 55 rfl rfl
                    obtain ⟨_, hx922, rfl⟩ := hp896.new 27 56 rfl rfl
                    obtain ⟨_, hx923, rfl⟩ := hp896.new 28 57 rfl rfl
                    obtain ⟨_, hx924, rfl⟩ := hp896.new 29 58 rfl rfl
                    obtain ⟨_, hx925, rfl⟩ := hp896.new 30 59 rfl rfl
                    obtain ⟨_, hx926, rfl⟩ := hp896.new 31 60 rfl rfl
                    obtain ⟨_, hx927, rfl⟩ := hp896.new 32 61 rfl rfl
                    obtain ⟨_, hx928, rfl⟩ := hp896.new 33 62 rfl rfl
                    obtain ⟨_, hx929, rfl⟩ := hp896.new 34 63 rfl rfl
                    obtain ⟨_, hx930, rfl⟩ := hp896.new 35 64 rfl rfl
                    refine SeqR.done ?_
                    refine tn ?_
                    refine CW.sub (Sub.cons (d := 1) hx900 (Sub.cons (d := 22) hx901 (Sub.cons (d := 23) hx902 (Sub.cons (d := 24) hx903 (Sub.cons (d := 34) hx904 (Sub.cons (d := 35) hx905 (Sub.cons (d := 36) hx906 (Sub.cons (d := 37) hx907 (Sub.cons (d := 38) hx908 (Sub.cons (d := 39) hx909 (Sub.cons (d := 40) hx910 (Sub.cons (d := 41) hx911 (Sub.cons (d := 44) hx912 (Sub.cons (d := 45) hx913 (Sub.cons (d := 46) hx914 (Sub.cons (d := 47) hx915 (Sub.cons (d := 50) hx916 (Sub.cons (d := 51) hx917 (Sub.cons (d := 52) hx918 (Sub.cons (d := 53) hx919 (Sub.cons (d := 54) hx920 (Sub.cons (d := 55) hx921 (Sub.cons (d := 56) hx922 (Sub.cons (d := 57) hx923 (Sub.cons (d := 58) hx924 (Sub.cons (d := 59) hx925 (Sub.cons (d := 60) hx926 (Sub.cons (d := 61) hx927 (Sub.cons (d := 62) hx928 (Sub.cons (d := 63) hx929 (Sub.cons (d := 64) hx930 (Sub.nil _)))))))))))))))))))))))))))))))) ?_
                    refine CW.cond_t rfl rfl ?_
                    refine CW.seq ?_
                    refine CW.region ?_
                    refine SeqR.d1 rfl rfl rfl (yl_assign rfl rfl ?_)
                    refine SeqR.done ?_
                    refine tn ?_
                    refine CW.ret ?_
                    refine br ?_
                    refine tr ?_
                    refine tr ?_
                    have hB932 : B_s_GoodTable_0 p_0 k30 () = .ret false := by simp only [B_s_GoodTable_0, hb16, hb23, hb25, hb105, hb110, hb116, cond_true, cond_false, loopE_done, loopE_ret]
                    have hL931 : loopM (B_s_GoodTable_0 p_0) (p_0.Idxs.length - 0) 0 () = .ret false := hI82.symm.trans (loopM.ret hlt93 hB932)
                    refine br ?_
                    refine tr ?_
                    refine rr rfl (.cons rfl .nil) ?_
                    have hM933 : (s_GoodTable p_0) = (false) := by simp only [s_GoodTable, hb16, hb23, hb25, hb105, hb110, hb116, hL931, cond_true, cond_false, loopE_done, loopE_ret]
                    rw [hM933]
                    have q934 := Ex.trans hf91 hE100
                    have q935 := Below.only q934 hO103 (by omega)
                    have q936 := Ex.trans q935 hE899
                    exact ⟨rfl, q936⟩
              · skip
                have q938 := Box.ex hf88 hE100
                have q939 := Box.only q938 hO103 (by omega)
                refine CW.drawsI 36 (vgetI [DetI (.pointer (some ⟨b95, 0 + 0, none⟩)), DetI (.string (bs ((p_0.Idxs.getD k30 d_Idx).Name))), DetI (.bool ((s_l24Letters ((p_0.Idxs.getD k30 d_Idx).Name) 1))), DetI (.bool (!(s_l24Letters ((p_0.Idxs.getD k30 d_Idx).Name) 1))), DetI (.bool (!(s_l24Letters ((p_0.Idxs.getD k30 d_Idx).Name) 1))), DetI (.pointer (some ⟨b95, 0 + 1, none⟩)), DetI (.int .i64 ((p_0.Idxs.getD k30 d_Idx).Col)), DetI (.pointer (some ⟨b7, 0 + 1, none⟩)), DetI (.slice A1 p_0.Cols.length c1), DetI (.int .i64 ((p_0.Cols.length : Int))), DetI (.int .i64 (IntKind.wrap .i64 ((p_0.Cols.length : Int) - 1))), DetI (.bool ((s_l1In ((p_0.Idxs.getD k30 d_Idx).Col) 1 (IntKind.wrap .i64 ((p_0.Cols.length : Int) - 1))))), DetI (.bool (!(s_l1In ((p_0.Idxs.getD k30 d_Idx).Col) 1 (IntKind.wrap .i64 ((p_0.Cols.length : Int) - 1))))), DetI (.bool (!(s_l1In ((p_0.Idxs.getD k30 d_Idx).Col) 1 (IntKind.wrap .i64 ((p_0.Cols.length : Int) - 1))))), DetI (.bool (!(s_l1In ((p_0.Idxs.getD k30 d_Idx).Col) 1 (IntKind.wrap .i64 ((p_0.Cols.length : Int) - 1))))), DetI (undef), DetI (undef), DetI (undef), DetI (undef), DetI (.bool (true)), DetI (.bool (true)), DetI (undef), DetI (undef), DetI (undef), DetI (undef), DetI (undef), DetI (undef), DetI (undef), DetI (undef), DetI (undef), DetI (undef), DetI (undef), DetI (undef), DetI (undef), DetI (undef), DetI (.bool (true))]) Try.follows rfl rfl rfl rfl rfl rfl (vgetI_stable ⟨StableI.det _, StableI.det _, StableI.det _, StableI.det _, StableI.det _, StableI.det _, StableI.det _, StableI.det _, StableI.det _, StableI.det _, StableI.det _, StableI.det _, StableI.det _, StableI.det _, StableI.det _, StableI.det _, StableI.det _, StableI.det _, StableI.det _, StableI.det _, StableI.det _, StableI.det _, StableI.det _, StableI.det _, StableI.det _, StableI.det _, StableI.det _, StableI.det _, StableI.det _, StableI.det _, StableI.det _, StableI.det _, StableI.det _, StableI.det _, StableI.det _, StableI.det _, trivial⟩) ⟨?_, ?_, ?_, ?_, ?_, ?_, ?_, ?_, ?_, ?_, ?_, ?_, ?_, ?_, ?_, ?_, ?_, ?_, ?_, ?_, ?_, ?_, ?_, ?_, ?_, ?_, ?_, ?_, ?_, ?_, ?_, ?_, ?_, ?_, ?_, ?_, trivial⟩ ?_
                · intro L941 w942 hi943
                  have hE944 := hi943.ex
                  have hE944z := Ex.size hE944
                  have hx945 := hi943.old 4 _ rfl rfl
                  exact OpR.op' rfl (Yl.sameI (yl_fieldAddr Try.fd132_0 rfl hx945 ⟨fun _ _ => rfl, rfl⟩))
                · intro L946 w947 hi948
                  have hE949 := hi948.ex
                  have hE949z := Ex.size hE949
                  obtain ⟨_, _, _, hx950, -, -, -, rfl⟩ := hi948.dep 0 29 rfl rfl
                  have q951 := Box.ex hB102 hE949
                  exact OpR.op' rfl (Yl.sameI (yl_load1 Try.ty9 rfl hx950 ((q951.cell 0).trans rfl) ⟨fun _ _ => rfl, rfl⟩))
                · intro L952 w953 hi954
                  have hE955 := hi954.ex
                  have hE955z := Ex.size hE955
                  obtain ⟨_, _, _, hx956, -, -, -, rfl⟩ := hi954.dep 1 30 rfl rfl
                  refine OpR.op' rfl (yl_call Try.en139 rfl (opvs_cons hx956 (opvs_cons rfl opvs_nil)) (Cal.mono (c_s_l24Letters ((p_0.Idxs.getD k30 d_Idx).Name) 1 (okL.getD o3.2.2 ok_d_Idx _)) ?_))
                  rintro v958 w957 ⟨rfl, hE959⟩
                  exact ⟨rfl, hE959⟩
                · intro L960 w961 hi962
                  have hE963 := hi962.ex
                  have hE963z := Ex.size hE963
                  obtain ⟨_, _, _, hx964, -, -, -, rfl⟩ := hi962.dep 2 31 rfl rfl
                  exact OpR.op' rfl (Yl.sameI (yl_not rfl hx964 ⟨fun _ _ => rfl, rfl⟩))
                · intro L965 w966 hi967
                  have hE968 := hi967.ex
                  have hE968z := Ex.size hE968
                  obtain ⟨_, _, _, hx969, -, -, -, rfl⟩ := hi967.dep 3 32 rfl rfl
                  exact OpR.op' rfl (Yl.sameI (yl_move rfl hx969 ⟨fun _ _ => rfl, rfl⟩))
                · intro L970 w971 hi972
                  have hE973 := hi972.ex
                  have hE973z := Ex.size hE973
                  obtain ⟨_, _, _, hx974, -, -, -, rfl⟩ := hi972.dep 4 33 rfl rfl
                  have hx975 := hi972.old 4 _ rfl rfl
                  exact OpR.want rfl rfl hx974 (not_t hb105) (Yl.sameI (yl_fieldAddr Try.fd132_1 rfl hx975 ⟨fun _ _ => rfl, rfl⟩))
                · intro L976 w977 hi978
                  have hE979 := hi978.ex
                  have hE979z := Ex.size hE979
                  obtain ⟨_, _, _, hx980, -, -, -, rfl⟩ := hi978.dep 4 33 rfl rfl
                  obtain ⟨_, _, _, hx981, -, -, -, rfl⟩ := hi978.dep 5 34 rfl rfl
                  have q982 := Box.ex hB102 hE979
                  exact OpR.want rfl rfl hx980 (not_t hb105) (Yl.sameI (yl_load1 Try.ty3 rfl hx981 ((q982.cell 1).trans rfl) ⟨fun _ _ => rfl, rfl⟩))
                · intro L983 w984 hi985
                  have hE986 := hi985.ex
                  have hE986z := Ex.size hE986
                  obtain ⟨_, _, _, hx987, -, -, -, rfl⟩ := hi985.dep 4 33 rfl rfl
                  have hx988 := hi985.old 1 _ rfl rfl
                  exact OpR.want rfl rfl hx987 (not_t hb105) (Yl.sameI (yl_fieldAddr Try.fd35_1 rfl hx988 ⟨fun _ _ => rfl, rfl⟩))
                · intro L989 w990 hi991
                  have hE992 := hi991.ex
                  have hE992z := Ex.size hE992
                  obtain ⟨_, _, _, hx993, -, -, -, rfl⟩ := hi991.dep 4 33 rfl rfl
                  obtain ⟨_, _, _, hx994, -, -, -, rfl⟩ := hi991.dep 7 36 rfl rfl
                  have q995 := Box.ex q939 hE992
                  exact OpR.want rfl rfl hx993 (not_t hb105) (Yl.sameI (yl_load1 Try.ty22 rfl hx994 ((q995.cell 1).trans rfl) ⟨fun _ _ => rfl, rfl⟩))
                · intro L996 w997 hi998
                  have hE999 := hi998.ex
                  have hE999z := Ex.size hE999
                  obtain ⟨_, _, _, hx1000, -, -, -, rfl⟩ := hi998.dep 4 33 rfl rfl
                  obtain ⟨_, _, _, hx1001, -, -, -, rfl⟩ := hi998.dep 8 37 rfl rfl
                  exact OpR.want rfl rfl hx1000 (not_t hb105) (Yl.sameI (yl_len Try.un22 rfl hx1001 ⟨fun _ _ => rfl, rfl⟩))
                · intro L1002 w1003 hi1004
                  have hE1005 := hi1004.ex
                  have hE1005z := Ex.size hE1005
                  obtain ⟨_, _, _, hx1006, -, -, -, rfl⟩ := hi1004.dep 4 33 rfl rfl
                  obtain ⟨_, _, _, hx1007, -, -, -, rfl⟩ := hi1004.dep 9 38 rfl rfl
                  exact OpR.want rfl rfl hx1006 (not_t hb105) (Yl.sameI (yl_sub rfl hx1007 rfl ⟨fun _ _ => rfl, rfl⟩))
                · intro L1008 w1009 hi1010
                  have hE1011 := hi1010.ex
                  have hE1011z := Ex.size hE1011
                  obtain ⟨_, _, _, hx1012, -, -, -, rfl⟩ := hi1010.dep 4 33 rfl rfl
                  obtain ⟨_, _, _, hx1013, -, -, -, rfl⟩ := hi1010.dep 6 35 rfl rfl
                  obtain ⟨_, _, _, hx1014, -, -, -, rfl⟩ := hi1010.dep 10 39 rfl rfl
                  refine OpR.want rfl rfl hx1012 (not_t hb105) (yl_call Try.en124 rfl (opvs_cons hx1013 (opvs_cons rfl (opvs_cons hx1014 opvs_nil))) (Cal.mono (c_s_l1In ((p_0.Idxs.getD k30 d_Idx).Col) 1 (IntKind.wrap .i64 ((p_0.Cols.length : Int) - 1))) ?_))
                  rintro v1016 w1015 ⟨rfl, hE1017⟩
                  exact ⟨rfl, hE1017⟩
                · intro L1018 w1019 hi1020
                  have hE1021 := hi1020.ex
                  have hE1021z := Ex.size hE1021
                  obtain ⟨_, _, _, hx1022, -, -, -, rfl⟩ := hi1020.dep 4 33 rfl rfl
                  obtain ⟨_, _, _, hx1023, -, -, -, rfl⟩ := hi1020.dep 11 40 rfl rfl
                  exact OpR.want rfl rfl hx1022 (not_t hb105) (Yl.sameI (yl_not rfl hx1023 ⟨fun _ _ => rfl, rfl⟩))
                · intro L1024 w1025 hi1026
                  have hE1027 := hi1026.ex
                  have hE1027z := Ex.size hE1027
                  obtain ⟨_, _, _, hx1028, -, -, -, rfl⟩ := hi1026.dep 12 41 rfl rfl
                  obtain ⟨_, _, _, hx1029, -, -, -, rfl⟩ := hi1026.dep 4 33 rfl rfl
                  exact OpR.op' rfl (Yl.sameI (yl_pick_f rfl hx1029 (not_t hb105) hx1028 ⟨fun _ _ => rfl, rfl⟩))
                · intro L1030 w1031 hi1032
                  have hE1033 := hi1032.ex
                  have hE1033z := Ex.size hE1033
                  obtain ⟨_, _, _, hx1034, -, -, -, rfl⟩ := hi1032.dep 13 42 rfl rfl
                  exact OpR.op' rfl (Yl.sameI (yl_move rfl hx1034 ⟨fun _ _ => rfl, rfl⟩))
                · intro L1035 w1036 hi1037
                  have hE1038 := hi1037.ex
                  have hE1038z := Ex.size hE1038
                  obtain ⟨_, _, _, hx1039, -, -, -, rfl⟩ := hi1037.dep 14 43 rfl rfl
                  exact OpR.skip rfl rfl hx1039 (not_f hb110) ⟨rfl, Ex.refl _⟩
                · intro L1040 w1041 hi1042
                  have hE1043 := hi1042.ex
                  have hE1043z := Ex.size hE1043
                  obtain ⟨_, _, _, hx1044, -, -, -, rfl⟩ := hi1042.dep 14 43 rfl rfl
                  exact OpR.skip rfl rfl hx1044 (not_f hb110) ⟨rfl, Ex.refl _⟩
                · intro L1045 w1046 hi1047
                  have hE1048 := hi1047.ex
                  have hE1048z := Ex.size hE1048
                  obtain ⟨_, _, _, hx1049, -, -, -, rfl⟩ := hi1047.dep 14 43 rfl rfl
                  exact OpR.skip rfl rfl hx1049 (not_f hb110) ⟨rfl, Ex.refl _⟩
                · intro L1050 w1051 hi1052
                  have hE1053 := hi1052.ex
                  have hE1053z := Ex.size hE1053
                  obtain ⟨_, _, _, hx1054, -, -, -, rfl⟩ := hi1052.dep 14 43 rfl rfl
                  exact OpR.skip rfl rfl hx1054 (not_f hb110) ⟨rfl, Ex.refl _⟩
                · intro L1055 w1056 hi1057
                  have hE1058 := hi1057.ex
                  have hE1058z := Ex.size hE1058
                  obtain ⟨_, _, _, hx1059, -, -, -, rfl⟩ := hi1057.dep 18 47 rfl rfl
                  obtain ⟨_, _, _, hx1060, -, -, -, rfl⟩ := hi1057.dep 14 43 rfl rfl
                  exact OpR.op' rfl (Yl.sameI (yl_pick_t rfl hx1060 (not_f hb110) rfl ⟨fun _ _ => rfl, rfl⟩))
                · intro L1061 w1062 hi1063
                  have hE1064 := hi1063.ex
                  have hE1064z := Ex.size hE1064
                  obtain ⟨_, _, _, hx1065, -, -, -, rfl⟩ := hi1063.dep 19 48 rfl rfl
                  exact OpR.op' rfl (Yl.sameI (yl_move rfl hx1065 ⟨fun _ _ => rfl, rfl⟩))
                · intro L1066 w1067 hi1068
                  have hE1069 := hi1068.ex
                  have hE1069z := Ex.size hE1069
                  obtain ⟨_, _, _, hx1070, -, -, -, rfl⟩ := hi1068.dep 20 49 rfl rfl
                  exact OpR.skip rfl rfl hx1070 rfl ⟨rfl, Ex.refl _⟩
                · intro L1071 w1072 hi1073
                  have hE1074 := hi1073.ex
                  have hE1074z := Ex.size hE1074
                  obtain ⟨_, _, _, hx1075, -, -, -, rfl⟩ := hi1073.dep 20 49 rfl rfl
                  exact OpR.skip rfl rfl hx1075 rfl ⟨rfl, Ex.refl _⟩
                · intro L1076 w1077 hi1078
                  have hE1079 := hi1078.ex
                  have hE1079z := Ex.size hE1079
                  obtain ⟨_, _, _, hx1080, -, -, -, rfl⟩ := hi1078.dep 20 49 rfl rfl
                  exact OpR.skip rfl rfl hx1080 rfl ⟨rfl, Ex.refl _⟩
                · intro L1081 w1082 hi1083
                  have hE1084 := hi1083.ex
                  have hE1084z := Ex.size hE1084
                  obtain ⟨_, _, _, hx1085, -, -, -, rfl⟩ := hi1083.dep 23 52 rfl rfl
                  exact OpR.undef rfl rfl hx1085 ⟨rfl, Ex.refl _⟩
                · intro L1086 w1087 hi1088
                  have hE1089 := hi1088.ex
                  have hE1089z := Ex.size hE1089
                  obtain ⟨_, _, _, hx1090, -, -, -, rfl⟩ := hi1088.dep 23 52 rfl rfl
                  exact OpR.undef rfl rfl hx1090 ⟨rfl, Ex.refl _⟩
                · intro L1091 w1092 hi1093
                  have hE1094 := hi1093.ex
                  have hE1094z := Ex.size hE1094
                  obtain ⟨_, _, _, hx1095, -, -, -, rfl⟩ := hi1093.dep 23 52 rfl rfl
                  exact OpR.undef rfl rfl hx1095 ⟨rfl, Ex.refl _⟩
                · intro L1096 w1097 hi1098
                  have hE1099 := hi1098.ex
                  have hE1099z := Ex.size hE1099
                  obtain ⟨_, _, _, hx1100, -, -, -, rfl⟩ := hi1098.dep 23 52 rfl rfl
                  exact OpR.undef rfl rfl hx1100 ⟨rfl, Ex.refl _⟩
                · intro L1101 w1102 hi1103
                  have hE1104 := hi1103.ex
                  have hE1104z := Ex.size hE1104
                  obtain ⟨_, _, _, hx1105, -, -, -, rfl⟩ := hi1103.dep 23 52 rfl rfl
                  exact OpR.undef rfl rfl hx1105 ⟨rfl, Ex.refl _⟩
                · intro L1106 w1107 hi1108
                  have hE1109 := hi1108.ex
                  have hE1109z := Ex.size hE1109
                  obtain ⟨_, _, _, hx1110, -, -, -, rfl⟩ := hi1108.dep 23 52 rfl rfl
                  exact OpR.undef rfl rfl hx1110 ⟨rfl, Ex.refl _⟩
                · intro L1111 w1112 hi1113
                  have hE1114 := hi1113.ex
                  have hE1114z := Ex.size hE1114
                  obtain ⟨_, _, _, hx1115, -, -, -, rfl⟩ := hi1113.dep 23 52 rfl rfl
                  exact OpR.undef rfl rfl hx1115 ⟨rfl, Ex.refl _⟩
                · intro L1116 w1117 hi1118
                  have hE1119 := hi1118.ex
                  have hE1119z := Ex.size hE1119
                  obtain ⟨_, _, _, hx1120, -, -, -, rfl⟩ := hi1118.dep 23 52 rfl rfl
                  exact OpR.undef rfl rfl hx1120 ⟨rfl, Ex.refl _⟩
                · intro L1121 w1122 hi1123
                  have hE1124 := hi1123.ex
                  have hE1124z := Ex.size hE1124
                  obtain ⟨_, _, _, hx1125, -, -, -, rfl⟩ := hi1123.dep 23 52 rfl rfl
                  exact OpR.undef rfl rfl hx1125 ⟨rfl, Ex.refl _⟩
                · intro L1126 w1127 hi1128
                  have hE1129 := hi1128.ex
                  have hE1129z := Ex.size hE1129
                  obtain ⟨_, _, _, hx1130, -, -, -, rfl⟩ := hi1128.dep 23 52 rfl rfl
                  exact OpR.undef rfl rfl hx1130 ⟨rfl, Ex.refl _⟩
                · intro L1131 w1132 hi1133
                  have hE1134 := hi1133.ex
                  have hE1134z := Ex.size hE1134
                  obtain ⟨_, _, _, hx1135, -, -, -, rfl⟩ := hi1133.dep 20 49 rfl rfl
                  exact OpR.skip rfl rfl hx1135 rfl ⟨rfl, Ex.refl _⟩
                · intro L1136 w1137 hi1138
                  have hE1139 := hi1138.ex
                  have hE1139z := Ex.size hE1139
                  obtain ⟨_, _, _, hx1140, -, -, -, rfl⟩ := hi1138.dep 34 63 rfl rfl
                  obtain ⟨_, _, _, hx1141, -, -, -, rfl⟩ := hi1138.dep 20 49 rfl rfl
                  exact OpR.op' rfl (Yl.sameI (yl_pick_t rfl hx1141 rfl rfl ⟨fun _ _ => rfl, rfl⟩))
                · intro fl1145 fh1146 L1142 w1143 hp1144
                  have hE1147 := hp1144.ex
                  have hE1147z := Ex.size hE1147
                  have hx1148 := hp1144.old 1 _ rfl rfl
                  have hx1149 := hp1144.old 22 _ rfl rfl
                  have hx1150 := hp1144.old 23 _ rfl rfl
                  have hx1151 := hp1144.old 24 _ rfl rfl
                  obtain ⟨_, hx1152, rfl⟩ := hp1144.new 5 34 rfl rfl
                  obtain ⟨_, hx1153, rfl⟩ := hp1144.new 6 35 rfl rfl
                  obtain ⟨_, hx1154, rfl⟩ := hp1144.new 7 36 rfl rfl
                  obtain ⟨_, hx1155, rfl⟩ := hp1144.new 8 37 rfl rfl
                  obtain ⟨_, hx1156, rfl⟩ := hp1144.new 9 38 rfl rfl
                  obtain ⟨_, hx1157, rfl⟩ := hp1144.new 10 39 rfl rfl
                  obtain ⟨_, hx1158, rfl⟩ := hp1144.new 11 40 rfl rfl
                  obtain ⟨_, hx1159, rfl⟩ := hp1144.new 12 41 rfl rfl
                  obtain ⟨_, hx1160, rfl⟩ := hp1144.new 15 44 rfl rfl
                  obtain ⟨_, hx1161, rfl⟩ := hp1144.new 16 45 rfl rfl
                  obtain ⟨_, hx1162, rfl⟩ := hp1144.new 17 46 rfl rfl
                  obtain ⟨_, hx1163, rfl⟩ := hp1144.new 18 47 rfl rfl
                  obtain ⟨_, hx1164, rfl⟩ := hp1144.new 21 50 rfl rfl
                  obtain ⟨_, hx1165, rfl⟩ := hp1144.new 22 51 rfl rfl
                  obtain ⟨_, hx1166, rfl⟩ := hp1144.new 23 52 rfl rfl
                  obtain ⟨_, hx1167, rfl⟩ := hp1144.new 24 53 rfl rfl
                  obtain ⟨_, hx1168, rfl⟩ := hp1144.new 25 54 rfl rfl
                  obtain ⟨_, hx1169, rfl⟩ := hp1144.new 26 55 rfl rfl
                  obtain ⟨_, hx1170, rfl⟩ := hp1144.new 27 56 rfl rfl
                  obtain ⟨_, hx1171, rfl⟩ := hp1144.new 28 57 rfl rfl
                  obtain ⟨_, hx1172, rfl⟩ := hp1144.new 29 58 rfl rfl
                  obtain ⟨_, hx1173, rfl⟩ := hp1144.new 30 59 rfl rfl
                  obtain ⟨_, hx1174, rfl⟩ := hp1144.new 31 60 rfl rfl
                  obtain ⟨_, hx1175, rfl⟩ := hp1144.new 32 61 rfl rfl
                  obtain ⟨_, hx1176, rfl⟩ := hp1144.new 33 62 rfl rfl
                  obtain ⟨_, hx1177, rfl⟩ := hp1144.new 34 63 rfl rfl
                  obtain ⟨_, hx1178, rfl⟩ := hp1144.new 35 64 rfl rfl
                  refine SeqR.done ?_
                  refine tn ?_
                  refine CW.sub (Sub.cons (d := 1) hx1148 (Sub.cons (d := 22) hx1149 (Sub.cons (d := 23) hx1150 (Sub.cons (d := 24) hx1151 (Sub.cons (d := 34) hx1152 (Sub.cons (d := 35) hx1153 (Sub.cons (d := 36) hx1154 (Sub.cons (d := 37) hx1155 (Sub.cons (d := 38) hx1156 (Sub.cons (d := 39) hx1157 (Sub.cons (d := 40) hx1158 (Sub.cons (d := 41) hx1159 (Sub.cons (d := 44) hx1160 (Sub.cons (d := 45) hx1161 (Sub.cons (d := 46) hx1162 (Sub.cons (d := 47) hx1163 (Sub.cons (d := 50) hx1164 (Sub.cons (d := 51) hx1165 (Sub.cons (d := 52) hx1166 (Sub.cons (d := 53) hx1167 (Sub.cons (d := 54) hx1168 (Sub.cons (d := 55) hx1169 (Sub.cons (d := 56) hx1170 (Sub.cons (d := 57) hx1171 (Sub.cons (d := 58) hx1172 (Sub.cons (d := 59) hx1173 (Sub.cons (d := 60) hx1174 (Sub.cons (d := 61) hx1175 (Sub.cons (d := 62) hx1176 (Sub.cons (d := 63) hx1177 (Sub.cons (d := 64) hx1178 (Sub.nil _)))))))))))))))))))))))))))))))) ?_
                  refine CW.cond_t rfl rfl ?_
                  refine CW.seq ?_
                  refine CW.region ?_
                  refine SeqR.d1 rfl rfl rfl (yl_assign rfl rfl ?_)
                  refine SeqR.done ?_
                  refine tn ?_
                  refine CW.ret ?_
                  refine br ?_
                  refine tr ?_
                  refine tr ?_
                  have hB1180 : B_s_GoodTable_0 p_0 k30 () = .ret false := by simp only [B_s_GoodTable_0, hb16, hb23, hb25, hb105, hb110, cond_true, cond_false, loopE_done, loopE_ret]
                  have hL1179 : loopM (B_s_GoodTable_0 p_0) (p_0.Idxs.length - 0) 0 () = .ret false := hI82.symm.trans (loopM.ret hlt93 hB1180)
                  refine br ?_
                  refine tr ?_
                  refine rr rfl (.cons rfl .nil) ?_
                  have hM1181 : (s_GoodTable p_0) = (false) := by simp only [s_GoodTable, hb16, hb23, hb25, hb105, hb110, hL1179, cond_true, cond_false, loopE_done, loopE_ret]
                  rw [hM1181]
                  have q1182 := Ex.trans hf91 hE100
                  have q1183 := Below.only q1182 hO103 (by omega)
                  have q1184 := Ex.trans q1183 hE1147
                  exact ⟨rfl, q1184⟩
            · skip
              refine CW.drawsI 36 (vgetI [DetI (.pointer (some ⟨b95, 0 + 0, none⟩)), DetI (.string (bs ((p_0.Idxs.getD k30 d_Idx).Name))), DetI (.bool ((s_l24Letters ((p_0.Idxs.getD k30 d_Idx).Name) 1))), DetI (.bool (!(s_l24Letters ((p_0.Idxs.getD k30 d_Idx).Name) 1))), DetI (.bool (!(s_l24Letters ((p_0.Idxs.getD k30 d_Idx).Name) 1))), DetI (undef), DetI (undef), DetI (undef), DetI (undef), DetI (undef), DetI (undef), DetI (undef), DetI (undef), DetI (.bool (true)), DetI (.bool (true)), DetI (undef), DetI (undef), DetI (undef), DetI (undef), DetI (.bool (true)), DetI (.bool (true)), DetI (undef), DetI (undef), DetI (undef), DetI (undef), DetI (undef), DetI (undef), DetI (undef), DetI (undef), DetI (undef), DetI (undef), DetI (undef), DetI (undef), DetI (undef), DetI (undef), DetI (.bool (true))]) Try.follows rfl rfl rfl rfl rfl rfl (vgetI_stable ⟨StableI.det _, StableI.det _, StableI.det _, StableI.det _, StableI.det _, StableI.det _, StableI.det _, StableI.det _, StableI.det _, StableI.det _, StableI.det _, StableI.det _, StableI.det _, StableI.det _, StableI.det _, StableI.det _, StableI.det _, StableI.det _, StableI.det _, StableI.det _, StableI.det _, StableI.det _, StableI.det _, StableI.det _, StableI.det _, StableI.det _, StableI.det _, StableI.det _, StableI.det _, StableI.det _, StableI.det _, StableI.det _, StableI.det _, StableI.det _, StableI.det _, StableI.det _, trivial⟩) ⟨?_, ?_, ?_, ?_, ?_, ?_, ?_, ?_, ?_, ?_, ?_, ?_, ?_, ?_, ?_, ?_, ?_, ?_, ?_, ?_, ?_, ?_, ?_, ?_, ?_, ?_, ?_, ?_, ?_, ?_, ?_, ?_, ?_, ?_, ?_, ?_, trivial⟩ ?_
              · intro L1186 w1187 hi1188
                have hE1189 := hi1188.ex
                have hE1189z := Ex.size hE1189
                have hx1190 := hi1188.old 4 _ rfl rfl
                exact OpR.op' rfl (Yl.sameI (yl_fieldAddr Try.fd132_0 rfl hx1190 ⟨fun _ _ => rfl, rfl⟩))
              · intro L1191 w1192 hi1193
                have hE1194 := hi1193.ex
                have hE1194z := Ex.size hE1194
                obtain ⟨_, _, _, hx1195, -, -, -, rfl⟩ := hi1193.dep 0 29 rfl rfl
                have q1196 := Box.ex hB102 hE1194
                exact OpR.op' rfl (Yl.sameI (yl_load1 Try.ty9 rfl hx1195 ((q1196.cell 0).trans rfl) ⟨fun _ _ => rfl, rfl⟩))
              · intro L1197 w1198 hi1199
                have hE1200 := hi1199.ex
                have hE1200z := Ex.size hE1200
                obtain ⟨_, _, _, hx1201, -, -, -, rfl⟩ := hi1199.dep 1 30 rfl rfl
                refine OpR.op' rfl (yl_call Try.en139 rfl (opvs_cons hx1201 (opvs_cons rfl opvs_nil)) (Cal.mono (c_s_l24Letters ((p_0.Idxs.getD k30 d_Idx).Name) 1 (okL.getD o3.2.2 ok_d_Idx _)) ?_))
                rintro v1203 w1202 ⟨rfl, hE1204⟩
                exact ⟨rfl, hE1204⟩
              · intro L1205 w1206 hi1207
                have hE1208 := hi1207.ex
                have hE1208z := Ex.size hE1208
                obtain ⟨_, _, _, hx1209, -, -, -, rfl⟩ := hi1207.dep 2 31 rfl rfl
                exact OpR.op' rfl (Yl.sameI (yl_not rfl hx1209 ⟨fun _ _ => rfl, rfl⟩))
              · intro L1210 w1211 hi1212
                have hE1213 := hi1212.ex
                have hE1213z := Ex.size hE1213
                obtain ⟨_, _, _, hx1214, -, -, -, rfl⟩ := hi1212.dep 3 32 rfl rfl
                exact OpR.op' rfl (Yl.sameI (yl_move rfl hx1214 ⟨fun _ _ => rfl, rfl⟩))
              · intro L1215 w1216 hi1217
                have hE1218 := hi1217.ex
                have hE1218z := Ex.size hE1218
                obtain ⟨_, _, _, hx1219, -, -, -, rfl⟩ := hi1217.dep 4 33 rfl rfl
                exact OpR.skip rfl rfl hx1219 (not_f hb105) ⟨rfl, Ex.refl _⟩
              · intro L1220 w1221 hi1222
                have hE1223 := hi1222.ex
                have hE1223z := Ex.size hE1223
                obtain ⟨_, _, _, hx1224, -, -, -, rfl⟩ := hi1222.dep 4 33 rfl rfl
                exact OpR.skip rfl rfl hx1224 (not_f hb105) ⟨rfl, Ex.refl _⟩
              · intro L1225 w1226 hi1227
                have hE1228 := hi1227.ex
                have hE1228z := Ex.size hE1228
                obtain ⟨_, _, _, hx1229, -, -, -, rfl⟩ := hi1227.dep 4 33 rfl rfl
                exact OpR.skip rfl rfl hx1229 (not_f hb105) ⟨rfl, Ex.refl _⟩
              · intro L1230 w1231 hi1232
                have hE1233 := hi1232.ex
                have hE1233z := Ex.size hE1233
                obtain ⟨_, _, _, hx1234, -, -, -, rfl⟩ := hi1232.dep 4 33 rfl rfl
                exact OpR.skip rfl rfl hx1234 (not_f hb105) ⟨rfl, Ex.refl _⟩
              · intro L1235 w1236 hi1237
                have hE1238 := hi1237.ex
                have hE1238z := Ex.size hE1238
                obtain ⟨_, _, _, hx1239, -, -, -, rfl⟩ := hi1237.dep 4 33 rfl rfl
                exact OpR.skip rfl rfl hx1239 (not_f hb105) ⟨rfl, Ex.refl _⟩
              · intro L1240 w1241 hi1242
                have hE1243 := hi1242.ex
                have hE1243z := Ex.size hE1243
                obtain ⟨_, _, _, hx1244, -, -, -, rfl⟩ := hi1242.dep 4 33 rfl rfl
                exact OpR.skip rfl rfl hx1244 (not_f hb105) ⟨rfl, Ex.refl _⟩
              · intro L1245 w1246 hi1247
                have hE1248 := hi1247.ex
                have hE1248z := Ex.size hE1248
                obtain ⟨_, _, _, hx1249, -, -, -, rfl⟩ := hi1247.dep 4 33 rfl rfl
                exact OpR.skip rfl rfl hx1249 (not_f hb105) ⟨rfl, Ex.refl _⟩
              · intro L1250 w1251 hi1252
                have hE1253 := hi1252.ex
                have hE1253z := Ex.size hE1253
                obtain ⟨_, _, _, hx1254, -, -, -, rfl⟩ := hi1252.dep 4 33 rfl rfl
                exact OpR.skip rfl rfl hx1254 (not_f hb105) ⟨rfl, Ex.refl _⟩
              · intro L1255 w1256 hi1257
                have hE1258 := hi1257.ex
                have hE1258z := Ex.size hE1258
                obtain ⟨_, _, _, hx1259, -, -, -, rfl⟩ := hi1257.dep 12 41 rfl rfl
                obtain ⟨_, _, _, hx1260, -, -, -, rfl⟩ := hi1257.dep 4 33 rfl rfl
                exact OpR.op' rfl (Yl.sameI (yl_pick_t rfl hx1260 (not_f hb105) rfl ⟨fun _ _ => rfl, rfl⟩))
              · intro L1261 w1262 hi1263
                have hE1264 := hi1263.ex
                have hE1264z := Ex.size hE1264
                obtain ⟨_, _, _, hx1265, -, -, -, rfl⟩ := hi1263.dep 13 42 rfl rfl
                exact OpR.op' rfl (Yl.sameI (yl_move rfl hx1265 ⟨fun _ _ => rfl, rfl⟩))
              · intro L1266 w1267 hi1268
                have hE1269 := hi1268.ex
                have hE1269z := Ex.size hE1269
                obtain ⟨_, _, _, hx1270, -, -, -, rfl⟩ := hi1268.dep 14 43 rfl rfl
                exact OpR.skip rfl rfl hx1270 rfl ⟨rfl, Ex.refl _⟩
              · intro L1271 w1272 hi1273
                have hE1274 := hi1273.ex
                have hE1274z := Ex.size hE1274
                obtain ⟨_, _, _, hx1275, -, -, -, rfl⟩ := hi1273.dep 14 43 rfl rfl
                exact OpR.skip rfl rfl hx1275 rfl ⟨rfl, Ex.refl _⟩
              · intro L1276 w1277 hi1278
                have hE1279 := hi1278.ex
                have hE1279z := Ex.size hE1279
                obtain ⟨_, _, _, hx1280, -, -, -, rfl⟩ := hi1278.dep 14 43 rfl rfl
                exact OpR.skip rfl rfl hx1280 rfl ⟨rfl, Ex.refl _⟩
              · intro L1281 w1282 hi1283
                have hE1284 := hi1283.ex
                have hE1284z := Ex.size hE1284
                obtain ⟨_, _, _, hx1285, -, -, -, rfl⟩ := hi1283.dep 14 43 rfl rfl
                exact OpR.skip rfl rfl hx1285 rfl ⟨rfl, Ex.refl _⟩
              · intro L1286 w1287 hi1288
                have hE1289 := hi1288.ex
                have hE1289z := Ex.size hE1289
                obtain ⟨_, _, _, hx1290, -, -, -, rfl⟩ := hi1288.dep 18 47 rfl rfl
                obtain ⟨_, _, _, hx1291, -, -, -, rfl⟩ := hi1288.dep 14 43 rfl rfl
                exact OpR.op' rfl (Yl.sameI (yl_pick_t rfl hx1291 rfl rfl ⟨fun _ _ => rfl, rfl⟩))
              · intro L1292 w1293 hi1294
                have hE1295 := hi1294.ex
                have hE1295z := Ex.size hE1295
                obtain ⟨_, _, _, hx1296, -, -, -, rfl⟩ := hi1294.dep 19 48 rfl rfl
                exact OpR.op' rfl (Yl.sameI (yl_move rfl hx1296 ⟨fun _ _ => rfl, rfl⟩))
              · intro L1297 w1298 hi1299
                have hE1300 := hi1299.ex
                have hE1300z := Ex.size hE1300
                obtain ⟨_, _, _, hx1301, -, -, -, rfl⟩ := hi1299.dep 20 49 rfl rfl
                exact OpR.skip rfl rfl hx1301 rfl ⟨rfl, Ex.refl _⟩
              · intro L1302 w1303 hi1304
                have hE1305 := hi1304.ex
                have hE1305z := Ex.size hE1305
                obtain ⟨_, _, _, hx1306, -, -, -, rfl⟩ := hi1304.dep 20 49 rfl rfl
                exact OpR.skip rfl rfl hx1306 rfl ⟨rfl, Ex.refl _⟩
              · intro L1307 w1308 hi1309
                have hE1310 := hi1309.ex
                have hE1310z := Ex.size hE1310
                obtain ⟨_, _, _, hx1311, -, -, -, rfl⟩ := hi1309.dep 20 49 rfl rfl
                exact OpR.skip rfl rfl hx1311 rfl ⟨rfl, Ex.refl _⟩
              · intro L1312 w1313 hi1314
                have hE1315 := hi1314.ex
                have hE1315z := Ex.size hE1315
                obtain ⟨_, _, _, hx1316, -, -, -, rfl⟩ := hi1314.dep 23 52 rfl rfl
                exact OpR.undef rfl rfl hx1316 ⟨rfl, Ex.refl _⟩
              · intro L1317 w1318 hi1319
                have hE1320 := hi1319.ex
                have hE1320z := Ex.size hE1320
                obtain ⟨_, _, _, hx1321, -, -, -, rfl⟩ := hi1319.dep 23 52 rfl rfl
                exact OpR.undef rfl rfl hx1321 ⟨rfl, Ex.refl _⟩
              · intro L1322 w1323 hi1324
                have hE1325 := hi1324.ex
                have hE1325z := Ex.size hE1325
                obtain ⟨_, _, _, hx1326, -, -, -, rfl⟩ := hi1324.dep 23 52 rfl rfl
                exact OpR.undef rfl rfl hx1326 ⟨rfl, Ex.refl _⟩
              · intro L1327 w1328 hi1329
                have hE1330 := hi1329.ex
                have hE1330z := Ex.size hE1330
                obtain ⟨_, _, _, hx1331, -, -, -, rfl⟩ := hi1329.dep 23 52 rfl rfl
                exact OpR.undef rfl rfl hx1331 ⟨rfl, Ex.refl _⟩
              · intro L1332 w1333 hi1334
                have hE1335 := hi1334.ex
                have hE1335z := Ex.size hE1335
                obtain ⟨_, _, _, hx1336, -, -, -, rfl⟩ := hi1334.dep 23 52 rfl rfl
                exact OpR.undef rfl rfl hx1336 ⟨rfl, Ex.refl _⟩
              · intro L1337 w1338 hi1339
                have hE1340 := hi1339.ex
                have hE1340z := Ex.size hE1340
                obtain ⟨_, _, _, hx1341, -, -, -, rfl⟩ := hi1339.dep 23 52 rfl rfl
                exact OpR.undef rfl rfl hx1341 ⟨rfl, Ex.refl _⟩
              · intro L1342 w1343 hi1344
                have hE1345 := hi1344.ex
                have hE1345z := Ex.size hE1345
                obtain ⟨_, _, _, hx1346, -, -, -, rfl⟩ := hi1344.dep 23 52 rfl rfl
                exact OpR.undef rfl rfl hx1346 ⟨rfl, Ex.refl _⟩
              · intro L1347 w1348 hi1349
                have hE1350 := hi1349.ex
                have hE1350z := Ex.size hE1350
                obtain ⟨_, _, _, hx1351, -, -, -, rfl⟩ := hi1349.dep 23 52 rfl rfl
                exact OpR.undef rfl rfl hx1351 ⟨rfl, Ex.refl _⟩
              · intro L1352 w1353 hi1354
                have hE1355 := hi1354.ex
                have hE1355z := Ex.size hE1355
                obtain ⟨_, _, _, hx1356, -, -, -, rfl⟩ := hi1354.dep 23 52 rfl rfl
                exact OpR.undef rfl rfl hx1356 ⟨rfl, Ex.refl _⟩
              · intro L1357 w1358 hi1359
                have hE1360 := hi1359.ex
                have hE1360z := Ex.size hE1360
                obtain ⟨_, _, _, hx1361, -, -, -, rfl⟩ := hi1359.dep 23 52 rfl rfl
                exact OpR.undef rfl rfl hx1361 ⟨rfl, Ex.refl _⟩
              · intro L1362 w1363 hi1364
                have hE1365 := hi1364.ex
                have hE1365z := Ex.size hE1365
                obtain ⟨_, _, _, hx1366, -, -, -, rfl⟩ := hi1364.dep 20 49 rfl rfl
                exact OpR.skip rfl rfl hx1366 rfl ⟨rfl, Ex.refl _⟩
              · intro L1367 w1368 hi1369
                have hE1370 := hi1369.ex
                have hE1370z := Ex.size hE1370
                obtain ⟨_, _, _, hx1371, -, -, -, rfl⟩ := hi1369.dep 34 63 rfl rfl
                obtain ⟨_, _, _, hx1372, -, -, -, rfl⟩ := hi1369.dep 20 49 rfl rfl
                exact OpR.op' rfl (Yl.sameI (yl_pick_t rfl hx1372 rfl rfl ⟨fun _ _ => rfl, rfl⟩))
              · intro fl1376 fh1377 L1373 w1374 hp1375
                have hE1378 := hp1375.ex
                have hE1378z := Ex.size hE1378
                have hx1379 := hp1375.old 1 _ rfl rfl
                have hx1380 := hp1375.old 22 _ rfl rfl
                have hx1381 := hp1375.old 23 _ rfl rfl
                have hx1382 := hp1375.old 24 _ rfl rfl
                obtain ⟨_, hx1383, rfl⟩ := hp1375.new 5 34 rfl rfl
                obtain ⟨_, hx1384, rfl⟩ := hp1375.new 6 35 rfl rfl
                obtain ⟨_, hx1385, rfl⟩ := hp1375.new 7 36 rfl rfl
                obtain ⟨_, hx1386, rfl⟩ := hp1375.new 8 37 rfl rfl
                obtain ⟨_, hx1387, rfl⟩ := hp1375.new 9 38 rfl rfl
                obtain ⟨_, hx1388, rfl⟩ := hp1375.new 10 39 rfl rfl
                obtain ⟨_, hx1389, rfl⟩ := hp1375.new 11 40 rfl rfl
                obtain ⟨_, hx1390, rfl⟩ := hp1375.new 12 41 rfl rfl
                obtain ⟨_, hx1391, rfl⟩ := hp1375.new 15 44 rfl rfl
                obtain ⟨_, hx1392, rfl⟩ := hp1375.new 16 45 rfl rfl
                obtain ⟨_, hx1393, rfl⟩ := hp1375.new 17 46 rfl rfl
                obtain ⟨_, hx1394, rfl⟩ := hp1375.new 18 47 rfl rfl
                obtain ⟨_, hx1395, rfl⟩ := hp1375.new 21 50 rfl rfl
                obtain ⟨_, hx1396, rfl⟩ := hp1375.new 22 51 rfl rfl
                obtain ⟨_, hx1397, rfl⟩ := hp1375.new 23 52 rfl rfl
                obtain ⟨_, hx1398, rfl⟩ := hp1375.new 24 53 rfl rfl
                obtain ⟨_, hx1399, rfl⟩ := hp1375.new 25 54 rfl rfl
                obtain ⟨_, hx1400, rfl⟩ := hp1375.new 26 55 rfl rfl
                obtain ⟨_, hx1401, rfl⟩ := hp1375.new 27 56 rfl rfl
                obtain ⟨_, hx1402, rfl⟩ := hp1375.new 28 57 rfl rfl
                obtain ⟨_, hx1403, rfl⟩ := hp1375.new 29 58 rfl rfl
                obtain ⟨_, hx1404, rfl⟩ := hp1375.new 30 59 rfl rfl
                obtain ⟨_, hx1405, rfl⟩ := hp1375.new 31 60 rfl rfl
                obtain ⟨_, hx1406, rfl⟩ := hp1375.new 32 61 rfl rfl
                obtain ⟨_, hx1407, rfl⟩ := hp1375.new 33 62 rfl rfl
                obtain ⟨_, hx1408, rfl⟩ := hp1375.new 34 63 rfl rfl
                obtain ⟨_, hx1409, rfl⟩ := hp1375.new 35 64 rfl rfl
                refine SeqR.done ?_
                refine tn ?_
                refine CW.sub (Sub.cons (d := 1) hx1379 (Sub.cons (d := 22) hx1380 (Sub.cons (d := 23) hx1381 (Sub.cons (d := 24) hx1382 (Sub.cons (d := 34) hx1383 (Sub.cons (d := 35) hx1384 (Sub.cons (d := 36) hx1385 (Sub.cons (d := 37) hx1386 (Sub.cons (d := 38) hx1387 (Sub.cons (d := 39) hx1388 (Sub.cons (d := 40) hx1389 (Sub.cons (d := 41) hx1390 (Sub.cons (d := 44) hx1391 (Sub.cons (d := 45) hx1392 (Sub.cons (d := 46) hx1393 (Sub.cons (d := 47) hx1394 (Sub.cons (d := 50) hx1395 (Sub.cons (d := 51) hx1396 (Sub.cons (d := 52) hx1397 (Sub.cons (d := 53) hx1398 (Sub.cons (d := 54) hx1399 (Sub.cons (d := 55) hx1400 (Sub.cons (d := 56) hx1401 (Sub.cons (d := 57) hx1402 (Sub.cons (d := 58) hx1403 (Sub.cons (d := 59) hx1404 (Sub.cons (d := 60) hx1405 (Sub.cons (d := 61) hx1406 (Sub.cons (d := 62) hx1407 (Sub.cons (d := 63) hx1408 (Sub.cons (d := 64) hx1409 (Sub.nil _)))))))))))))))))))))))))))))))) ?_
                refine CW.cond_t rfl rfl ?_
                refine CW.seq ?_
                refine CW.region ?_
                refine SeqR.d1 rfl rfl rfl (yl_assign rfl rfl ?_)
                refine SeqR.done ?_
                refine tn ?_
                refine CW.ret ?_
                refine br ?_
                refine tr ?_
                refine tr ?_
                have hB1411 : B_s_GoodTable_0 p_0 k30 () = .ret false := by simp only [B_s_GoodTable_0, hb16, hb23, hb25, hb105, cond_true, cond_false, loopE_done, loopE_ret]
                have hL1410 : loopM (B_s_GoodTable_0 p_0) (p_0.Idxs.length - 0) 0 () = .ret false := hI82.symm.trans (loopM.ret hlt93 hB1411)
                refine br ?_
                refine tr ?_
                refine rr rfl (.cons rfl .nil) ?_
                have hM1412 : (s_GoodTable p_0) = (false) := by simp only [s_GoodTable, hb16, hb23, hb25, hb105, hL1410, cond_true, cond_false, loopE_done, loopE_ret]
                rw [hM1412]
                have q1413 := Ex.trans hf91 hE100
                have q1414 := Below.only q1413 hO103 (by omega)
                have q1415 := Ex.trans q1414 hE1378
                exact ⟨rfl, q1415⟩
          · skip
            refine CW.seq ?_
            refine CW.region ?_
            refine SeqR.d1 rfl rfl rfl (yl_lss rfl rfl rfl ?_)
            refine SeqR.done ?_
            refine tn ?_
            refine CW.seq ?_
            refine CW.cond_f rfl (lt_f hlt93) ?_
            refine CW.exit ?_
            refine tx ?_
            refine tx ?_
            have hL1416 : loopM (B_s_GoodTable_0 p_0) (p_0.Idxs.length - 0) 0 () = .done () := hI82.symm.trans (loopM.stop hlt93)
            refine bx ?_
            refine tn ?_
            refine CW.seq ?_
            refine CW.region ?_
            refine SeqR.d1 rfl rfl rfl (yl_assign rfl rfl ?_)
            refine SeqR.done ?_
            refine tn ?_
            refine CW.ret ?_
            refine rr rfl (.cons rfl .nil) ?_
            have hM1417 : (s_GoodTable p_0) = (true) := by simp only [s_GoodTable, hb16, hb23, hb25, hL1416, cond_true, cond_false, loopE_done, loopE_ret]
            rw [hM1417]
            exact ⟨rfl, hf91⟩
    · skip
      refine SeqR.z rfl rfl rfl rfl rfl (not_f hb23) ?_
      refine SeqR.z rfl rfl rfl rfl rfl (not_f hb23) ?_
      refine SeqR.z rfl rfl rfl rfl rfl (not_f hb23) ?_
      refine SeqR.z rfl rfl rfl rfl rfl (not_f hb23) ?_
      refine SeqR.d1 rfl rfl rfl (yl_pick_t rfl rfl (not_f hb23) rfl ?_)
      refine SeqR.done ?_
      refine tn ?_
      refine CW.cond_t rfl rfl ?_
      refine CW.seq ?_
      refine CW.region ?_
      refine SeqR.d1 rfl rfl rfl (yl_assign rfl rfl ?_)
      refine SeqR.done ?_
      refine tn ?_
      refine CW.ret ?_
      refine tr ?_
      refine rr rfl (.cons rfl .nil) ?_
      have hM1418 : (s_GoodTable p_0) = (false) := by simp only [s_GoodTable, hb16, hb23, cond_true, cond_false, loopE_done, loopE_ret]
      rw [hM1418]
      have q1419 := Ex.trans (Ex.refl w) hE12
      have q1420 := Ex.trans q1419 hE15
      have q1421 := Ex.trans q1420 hE22
      exact ⟨rfl, q1421⟩
  · skip
    refine SeqR.z rfl rfl rfl rfl rfl (not_f hb16) ?_
    refine SeqR.z rfl rfl rfl rfl rfl (not_f hb16) ?_
    refine SeqR.z rfl rfl rfl rfl rfl (not_f hb16) ?_
    refine SeqR.z rfl rfl rfl rfl rfl (not_f hb16) ?_
    refine SeqR.d1 rfl rfl rfl (yl_pick_t rfl rfl (not_f hb16) rfl ?_)
    refine SeqR.d1 rfl rfl rfl (yl_move rfl rfl ?_)
    refine SeqR.z rfl rfl rfl rfl rfl rfl ?_
    refine SeqR.z rfl rfl rfl rfl rfl rfl ?_
    refine SeqR.z rfl rfl rfl rfl rfl rfl ?_
    refine SeqR.z rfl rfl rfl rfl rfl rfl ?_
    refine SeqR.d1 rfl rfl rfl (yl_pick_t rfl rfl rfl rfl ?_)
    refine SeqR.done ?_
    refine tn ?_
    refine CW.cond_t rfl rfl ?_
    refine CW.seq ?_
    refine CW.region ?_
    refine SeqR.d1 rfl rfl rfl (yl_assign rfl rfl ?_)
    refine SeqR.done ?_
    refine tn ?_
    refine CW.ret ?_
    refine tr ?_
    refine rr rfl (.cons rfl .nil) ?_
    have hM1422 : (s_GoodTable p_0) = (false) := by simp only [s_GoodTable, hb16, cond_true, cond_false, loopE_done, loopE_ret]
    rw [hM1422]
    have q1423 := Ex.trans (Ex.refl w) hE12
    have q1424 := Ex.trans q1423 hE15
    exact ⟨rfl, q1424⟩
set_option maxRecDepth 100000 in
set_option maxHeartbeats 2000000 in
theorem c_s_l24Idx {A1 : Option Addr} {c1 : Nat} {A2 : Option Addr} {c2 : Nat} {w : World} (p_t : DTable) (p_name : Str) (h1 : RdS w (Iv 0 w.heap.size) (RF e_Str) 1 A1 p_t.Cols.length c1 p_t.Cols) (h2 : RdS w (Iv 0 w.heap.size) (RF e_Idx) 3 A2 p_t.Idxs.length c2 p_t.Idxs) (o3 : ok_Table p_t) (o4 : okS p_name) : Cal Try.prog 148 #[.agg #[.string (bs (p_t.Name)), .slice A1 p_t.Cols.length c1, .slice A2 p_t.Idxs.length c2], .string (bs (p_name))] w fun v w' => v = .int .i64 ((s_l24Idx p_t p_name)) ∧ Ex w w' := by
  have hol5 : p_t.Name.length ≤ 1073741824 := o3.1
  have hol6 := o3.2.1.1
  have hol7 := o3.2.2.1
  have hol8 : p_name.length ≤ 1073741824 := o4
  refine Cal.of (vs := [.agg #[.string (bs (p_t.Name)), .slice A1 p_t.Cols.length c1, .slice A2 p_t.Idxs.length c2], .string (bs (p_name))]) Try.func148 rfl Try.ntmps148 rfl ?_
  refine CW.seq ?_
  refine CW.region ?_
  refine SeqR.d1 rfl rfl rfl (yl_box (cs := [.string (bs (p_t.Name)), .slice A1 p_t.Cols.length c1, .slice A2 p_t.Idxs.length c2]) rfl rfl rfl ?_)
  intro b9 w10 hs11 hz12 hB13 hE14
  refine SeqR.d1 rfl rfl rfl (yl_assign rfl rfl ?_)
  refine SeqR.done ?_
  refine tn ?_
  refine CW.seq ?_
  refine CW.seq ?_
  refine CW.region ?_
  refine SeqR.d1 rfl rfl rfl (yl_fieldAddr Try.fd35_2 rfl rfl ?_)
  refine SeqR.d1 rfl rfl rfl (yl_load1 Try.ty33 rfl rfl ((hB13.cell 2).trans rfl) ?_)
  refine SeqR.d1 rfl rfl rfl (yl_len Try.un33 rfl rfl ?_)
  refine SeqR.d1 rfl rfl rfl (yl_move rfl rfl ?_)
  refine SeqR.done ?_
  refine tn ?_
  refine CW.block ?_
  have q30 := RdS.ex good_Idx h2 hE14
  have q31 := Ex.trans (Ex.refl w) hE14
  refine CW.loop (fun m27 L28 w29 => ∃ (k15 : Nat), m27 = p_t.Idxs.length - k15 ∧ k15 ≤ p_t.Idxs.length ∧ w10.heap.size ≤ w29.heap.size ∧ lkp L28 1 = some (.string (bs (p_name))) ∧ lkp L28 8 = some (.slice A2 p_t.Idxs.length c2) ∧ lkp L28 9 = some (.int .i64 ((p_t.Idxs.length : Int))) ∧ lkp L28 10 = some (.int .i64 ((k15 : Int))) ∧ RdS w29 (Iv 0 w.heap.size) (RF e_Idx) 3 A2 p_t.Idxs.length c2 p_t.Idxs ∧ Ex w w29 ∧ loopM (B_s_l24Idx_0 p_t p_name) (p_t.Idxs.length - k15) k15 () = loopM (B_s_l24Idx_0 p_t p_name) (p_t.Idxs.length - 0) 0 ()) (p_t.Idxs.length - 0) ?_ ?_
  · exact ⟨0, rfl, (by omega), Nat.le_refl _, rfl, rfl, rfl, rfl, q30, q31, rfl⟩
  · rintro m32 L33 w34 ⟨k15, rfl, hk35, hsz37, hl38, hl39, hl40, hl41, hf42, hf43, hI36⟩
    refine CW.sub (Sub.cons hl38 (Sub.cons hl39 (Sub.cons hl40 (Sub.cons hl41 (Sub.nil _))))) ?_
    have hf43z := Ex.size hf43
    have hbg44 := RdS.big hf42
    rcases Nat.lt_or_ge k15 p_t.Idxs.length with hlt45 | hlt45
    · skip
      refine CW.seq ?_
      refine CW.region ?_
      refine SeqR.d1 rfl rfl rfl (yl_lss rfl rfl rfl ?_)
      refine SeqR.done ?_
      refine tn ?_
      refine CW.seq ?_
      refine CW.cond_t rfl (lt_t hlt45) ?_
      refine CW.skip ?_
      refine tn ?_
      refine CW.seq ?_
      refine CW.block ?_
      refine CW.seq ?_
      refine CW.region ?_
      refine SeqR.d1 rfl rfl rfl (yl_move rfl rfl ?_)
      obtain ⟨eb46, eo46, ec46, eA46, eS46, ebl46, el46, eR46, eC46⟩ := RdS.atD hf42 d_Idx (i := k15) (by first | omega | assumption)
      obtain rfl := eR46
      have eC46 : Cells w34 eb46 (eo46 + k15 * 3) [.string (bs ((p_t.Idxs.getD k15 d_Idx).Name)), .int .i64 ((p_t.Idxs.getD k15 d_Idx).Col), .int .i64 ((p_t.Idxs.getD k15 d_Idx).Stage)] := eC46
      refine SeqR.d1 rfl rfl rfl (yl_indexAddrN Try.un33 Try.ty132 rfl rfl rfl eA46 (by first | omega | assumption | (simp only [IntKind.wrap_i64] at *; omega)) ?_)
      refine SeqR.d1 rfl rfl rfl (yl_loadN (cs := [.string (bs ((p_t.Idxs.getD k15 d_Idx).Name)), .int .i64 ((p_t.Idxs.getD k15 d_Idx).Col), .int .i64 ((p_t.Idxs.getD k15 d_Idx).Stage)]) Try.ty132 rfl rfl eC46 rfl ?_)
      refine SeqR.d1 rfl rfl rfl (yl_alloc Try.ty132 (cs := [.string (bs (([] : Str))), .int .i64 (0), .int .i64 (0)]) rfl rfl ?_)
      intro b47 w48 hs49 hz50 hB51 hE52
      refine SeqR.d1 rfl rfl rfl (yl_assign rfl rfl ?_)
      refine SeqR.u rfl rfl (yl_store (vs := [.string (bs ((p_t.Idxs.getD k15 d_Idx).Name)), .int .i64 ((p_t.Idxs.getD k15 d_Idx).Col), .int .i64 ((p_t.Idxs.getD k15 d_Idx).Stage)]) Try.ty132 rfl rfl rfl rfl rfl rfl hB51 (Nat.le_of_ble_eq_true rfl) ?_)
      intro w53 hB54 hO55
      have hB54 : Box w53 b47 132 [.string (bs ((p_t.Idxs.getD k15 d_Idx).Name)), .int .i64 ((p_t.Idxs.getD k15 d_Idx).Col), .int .i64 ((p_t.Idxs.getD k15 d_Idx).Stage)] := hB54
      have hO55z := hO55.size
      refine SeqR.done ?_
      refine tn ?_
      refine CW.seq ?_
      refine CW.region ?_
      refine SeqR.d1 rfl rfl rfl (yl_fieldAddr Try.fd132_0 rfl rfl ?_)
      refine SeqR.d1 rfl rfl rfl (yl_load1 Try.ty9 rfl rfl ((hB54.cell 0).trans rfl) ?_)
      refine SeqR.d1 rfl rfl rfl (yl_move rfl rfl ?_)
      refine SeqR.d1 rfl rfl rfl (yl_seql (a := ((p_t.Idxs.getD k15 d_Idx).Name)) (b := p_name) rfl rfl rfl ?_)
      refine SeqR.done ?_
      refine tn ?_
      refine bcase (((p_t.Idxs.getD k15 d_Idx).Name) == p_name) (fun hb56 => ?_) (fun hb56 => ?_)
      · skip
        refine CW.cond_t rfl hb56 ?_
        refine CW.seq ?_
        refine CW.region ?_
        refine SeqR.d1 rfl rfl rfl (yl_move rfl rfl ?_)
        refine SeqR.d1 rfl rfl rfl (yl_assign rfl rfl ?_)
        refine SeqR.done ?_
        refine tn ?_
        refine CW.ret ?_
        refine br ?_
        refine tr ?_
        refine tr ?_
        have hB58 : B_s_l24Idx_0 p_t p_name k15 () = .ret (k15 : Int) := by simp only [B_s_l24Idx_0, hb56, cond_true, cond_false, loopE_done, loopE_ret]
        have hL57 : loopM (B_s_l24Idx_0 p_t p_name) (p_t.Idxs.length - 0) 0 () = .ret (k15 : Int) := hI36.symm.trans (loopM.ret hlt45 hB58)
        refine br ?_
        refine tr ?_
        refine rr rfl (.cons rfl .nil) ?_
        have hM59 : (s_l24Idx p_t p_name) = ((k15 : Int)) := by simp only [s_l24Idx, hb56, hL57, cond_true, cond_false, loopE_done, loopE_ret]
        rw [hM59]
        have q60 := Ex.trans hf43 hE52
        have q61 := Below.only q60 hO55 (by omega)
        exact ⟨rfl, q61⟩
      · skip
        refine CW.cond_f rfl hb56 ?_
        refine CW.skip ?_
        refine bn ?_
        refine tn ?_
        refine CW.region ?_
        refine SeqR.d1 rfl rfl rfl (yl_inc rfl rfl rfl (by omega) ?_)
        refine SeqR.d1 rfl rfl rfl (yl_move rfl rfl ?_)
        refine SeqR.done ?_
        refine tn ?_
        have hB62 : B_s_l24Idx_0 p_t p_name k15 () = .cont () := by simp only [B_s_l24Idx_0, hb56, cond_true, cond_false, loopE_done, loopE_ret]
        have q63 := RdS.ex good_Idx hf42 hE52
        have q64 := RdS.only good_Idx q63 hO55 (by simp only [Iv]; omega)
        have q65 := Ex.trans hf43 hE52
        have q66 := Below.only q65 hO55 (by omega)
        exact ⟨p_t.Idxs.length - (k15 + 1), by omega, k15 + 1, rfl, hlt45, (by omega), rfl, rfl, rfl, rfl, q64, q66, (loopM.cont hlt45 hB62).symm.trans hI36⟩
    · skip
      refine CW.seq ?_
      refine CW.region ?_
      refine SeqR.d1 rfl rfl rfl (yl_lss rfl rfl rfl ?_)
      refine SeqR.done ?_
      refine tn ?_
      refine CW.seq ?_
      refine CW.cond_f rfl (lt_f hlt45) ?_
      refine CW.exit ?_
      refine tx ?_
      refine tx ?_
      have hL67 : loopM (B_s_l24Idx_0 p_t p_name) (p_t.Idxs.length - 0) 0 () = .done () := hI36.symm.trans (loopM.stop hlt45)
      refine bx ?_
      refine tn ?_
      refine CW.seq ?_
      refine CW.region ?_
      refine SeqR.d1 rfl rfl rfl (yl_assign rfl rfl ?_)
      refine SeqR.done ?_
      refine tn ?_
      refine CW.ret ?_
      refine rr rfl (.cons rfl .nil) ?_
      have hM68 : (s_l24Idx p_t p_name) = (-1) := by simp only [s_l24Idx, hL67, cond_true, cond_false, loopE_done, loopE_ret]
      rw [hM68]
      exact ⟨rfl, hf43⟩
set_option maxRecDepth 100000 in
set_option maxHeartbeats 2000000 in
theorem c_s_IdxAt {A1 : Option Addr} {c1 : Nat} {A2 : Option Addr} {c2 : Nat} {w : World} (p_t : DTable) (p_name : Str) (h1 : RdS w (Iv 0 w.heap.size) (RF e_Str) 1 A1 p_t.Cols.length c1 p_t.Cols) (h2 : RdS w (Iv 0 w.heap.size) (RF e_Idx) 3 A2 p_t.Idxs.length c2 p_t.Idxs) (o3 : ok_Table p_t) (o4 : okS p_name) : Cal Try.prog 86 #[.agg #[.string (bs (p_t.Name)), .slice A1 p_t.Cols.length c1, .slice A2 p_t.Idxs.length c2], .string (bs (p_name))] w fun v w' => v = .tuple #[.agg #[.string (bs ((s_IdxAt p_t p_name).1.Name)), .int .i64 ((s_IdxAt p_t p_name).1.Col), .int .i64 ((s_IdxAt p_t p_name).1.Stage)], .bool ((s_IdxAt p_t p_name).2)] ∧ ok_Idx ((s_IdxAt p_t p_name).1) ∧ Ex w w' := by
  have hol5 : p_t.Name.length ≤ 1073741824 := o3.1
  have hol6 := o3.2.1.1
  have hol7 := o3.2.2.1
  have hol8 : p_name.length ≤ 1073741824 := o4
  refine Cal.of (vs := [.agg #[.string (bs (p_t.Name)), .slice A1 p_t.Cols.length c1, .slice A2 p_t.Idxs.length c2], .string (bs (p_name))]) Try.func86 rfl Try.ntmps86 rfl ?_
  refine CW.seq ?_
  refine CW.region ?_
  refine SeqR.d1 rfl rfl rfl (yl_box (cs := [.string (bs (p_t.Name)), .slice A1 p_t.Cols.length c1, .slice A2 p_t.Idxs.length c2]) rfl rfl rfl ?_)
  intro b9 w10 hs11 hz12 hB13 hE14
  refine SeqR.d1 rfl rfl rfl (yl_alloc Try.ty132 (cs := [.string (bs (([] : Str))), .int .i64 (0), .int .i64 (0)]) rfl rfl ?_)
  intro b15 w16 hs17 hz18 hB19 hE20
  refine SeqR.d1 rfl rfl rfl (yl_assign rfl rfl ?_)
  refine SeqR.done ?_
  refine tn ?_
  refine CW.seq ?_
  refine CW.region ?_
  have q21 := Box.ex hB13 hE20
  refine SeqR.d1 rfl rfl rfl (yl_loadN (cs := [.string (bs (p_t.Name)), .slice A1 p_t.Cols.length c1, .slice A2 p_t.Idxs.length c2]) Try.ty35 rfl rfl (q21.cells (n := 3) rfl) rfl ?_)
  refine SeqR.d1 rfl rfl rfl (yl_move rfl rfl ?_)
  have q22 := RdS.ex good_Str h1 hE14
  have q23 := RdS.ex good_Str q22 hE20
  have q24 := RdS.ex good_Idx h2 hE14
  have q25 := RdS.ex good_Idx q24 hE20
  refine SeqR.d1 rfl rfl rfl (yl_call Try.en148 rfl (opvs_cons rfl (opvs_cons rfl opvs_nil)) (Cal.mono (c_s_l24Idx p_t p_name (RdS.up q23 good_Str) (RdS.up q25 good_Idx) o3 o4) ?_))
  rintro v27 w26 ⟨rfl, hE28⟩
  have hE28z := Ex.size hE28
  have hrf29 := rf_s_l24Idx p_t p_name
  refine SeqR.d1 rfl rfl rfl (yl_assign rfl rfl ?_)
  refine SeqR.done ?_
  refine tn ?_
  refine CW.seq ?_
  refine CW.seq ?_
  refine CW.region ?_
  have q30 := Box.ex q21 hE28
  refine SeqR.d1 rfl rfl rfl (yl_loadN (cs := [.string (bs (p_t.Name)), .slice A1 p_t.Cols.length c1, .slice A2 p_t.Idxs.length c2]) Try.ty35 rfl rfl (q30.cells (n := 3) rfl) rfl ?_)
  have q31 := RdS.ex good_Str q23 hE28
  have q32 := RdS.ex good_Idx q25 hE28
  refine SeqR.d1 rfl rfl rfl (yl_call Try.en68 rfl (opvs_cons rfl opvs_nil) (Cal.mono (c_s_GoodTable p_t (RdS.up q31 good_Str) (RdS.up q32 good_Idx) o3) ?_))
  rintro v34 w33 ⟨rfl, hE35⟩
  have hE35z := Ex.size hE35
  refine SeqR.d1 rfl rfl rfl (yl_not rfl rfl ?_)
  refine SeqR.d1 rfl rfl rfl (yl_move rfl rfl ?_)
  refine bcase (s_GoodTable p_t) (fun hb36 => ?_) (fun hb36 => ?_)
  · have hb36p := f_s_GoodTable hb36
    refine SeqR.y rfl rfl rfl rfl rfl (not_t hb36) (yl_move rfl rfl ?_)
    refine SeqR.y rfl rfl rfl rfl rfl (not_t hb36) (yl_lss rfl rfl rfl ?_)
    refine SeqR.d1 rfl rfl rfl (yl_pick_f rfl rfl (not_t hb36) rfl ?_)
    refine SeqR.done ?_
    refine tn ?_
    refine bcase (decide ((s_l24Idx p_t p_name) < 0)) (fun hb37 => ?_) (fun hb37 => ?_)
    · have hb37p := dec_t hb37
      refine CW.cond_t rfl hb37 ?_
      refine CW.seq ?_
      refine CW.region ?_
      refine SeqR.d1 rfl rfl rfl (yl_build (cs := [.string (bs (([] : Str))), .int .i64 (0), .int .i64 (0)]) rfl opvs_nil (by kernel_rfl) ?_)
      have q38 := Box.ex hB19 hE28
      have q39 := Box.ex q38 hE35
      refine SeqR.u rfl rfl (yl_store (vs := [.string (bs (([] : Str))), .int .i64 (0), .int .i64 (0)]) Try.ty132 rfl rfl rfl rfl rfl rfl q39 (Nat.le_of_ble_eq_true rfl) ?_)
      intro w40 hB41 hO42
      have hB41 : Box w40 b15 132 [.string (bs (([] : Str))), .int .i64 (0), .int .i64 (0)] := hB41
      have hO42z := hO42.size
      refine SeqR.d1 rfl rfl rfl (yl_assign rfl rfl ?_)
      refine SeqR.done ?_
      refine tn ?_
      refine CW.ret ?_
      refine tr ?_
      refine rr rfl (.cons ⟨_, rfl, run_loadN Try.ty132 (cs := [.string (bs (([] : Str))), .int .i64 (0), .int .i64 (0)]) rfl (hB41.cells (n := 3) rfl)⟩ (.cons rfl .nil)) ?_
      have hM43 : (s_IdxAt p_t p_name) = (((⟨([] : Str), 0, 0⟩ : DIdx), false)) := by simp only [s_IdxAt, hb36, hb37, cond_true, cond_false, loopE_done, loopE_ret]
      rw [hM43]
      have q44 := Ex.trans (Ex.refl w) hE14
      have q45 := Ex.trans q44 hE20
      have q46 := Ex.trans q45 hE28
      have q47 := Ex.trans q46 hE35
      have q48 := Below.only q47 hO42 (by omega)
      exact ⟨rfl, (okS.lit rfl), q48⟩
    · have hb37p := dec_f hb37
      refine CW.cond_f rfl hb37 ?_
      refine CW.skip ?_
      refine tn ?_
      refine CW.seq ?_
      refine CW.region ?_
      refine SeqR.d1 rfl rfl rfl (yl_fieldAddr Try.fd35_2 rfl rfl ?_)
      have q49 := Box.ex q30 hE35
      refine SeqR.d1 rfl rfl rfl (yl_load1 Try.ty33 rfl rfl ((q49.cell 2).trans rfl) ?_)
      refine SeqR.d1 rfl rfl rfl (yl_move rfl rfl ?_)
      have q50 := RdS.ex good_Idx q32 hE35
      obtain ⟨eb51, eo51, ec51, eA51, eS51, ebl51, el51, eR51, eC51⟩ := RdS.atD q50 d_Idx (i := ((s_l24Idx p_t p_name)).toNat) (by first | omega | assumption | (simp only [IntKind.wrap_i64] at *; omega))
      obtain rfl := eR51
      have eC51 : Cells w33 eb51 (eo51 + (((s_l24Idx p_t p_name)).toNat) * 3) [.string (bs ((p_t.Idxs.getD (((s_l24Idx p_t p_name)).toNat) d_Idx).Name)), .int .i64 ((p_t.Idxs.getD (((s_l24Idx p_t p_name)).toNat) d_Idx).Col), .int .i64 ((p_t.Idxs.getD (((s_l24Idx p_t p_name)).toNat) d_Idx).Stage)] := eC51
      refine SeqR.d1 rfl rfl rfl (yl_indexAddr Try.un33 Try.ty132 rfl rfl rfl eA51 (by first | omega | assumption | (simp only [IntKind.wrap_i64] at *; omega)) (by first | omega | assumption | (simp only [IntKind.wrap_i64] at *; omega)) ?_)
      refine SeqR.d1 rfl rfl rfl (yl_loadN (cs := [.string (bs ((p_t.Idxs.getD (((s_l24Idx p_t p_name)).toNat) d_Idx).Name)), .int .i64 ((p_t.Idxs.getD (((s_l24Idx p_t p_name)).toNat) d_Idx).Col), .int .i64 ((p_t.Idxs.getD (((s_l24Idx p_t p_name)).toNat) d_Idx).Stage)]) Try.ty132 rfl rfl eC51 rfl ?_)
      have q52 := Box.ex hB19 hE28
      have q53 := Box.ex q52 hE35
      refine SeqR.u rfl rfl (yl_store (vs := [.string (bs ((p_t.Idxs.getD (((s_l24Idx p_t p_name)).toNat) d_Idx).Name)), .int .i64 ((p_t.Idxs.getD (((s_l24Idx p_t p_name)).toNat) d_Idx).Col), .int .i64 ((p_t.Idxs.getD (((s_l24Idx p_t p_name)).toNat) d_Idx).Stage)]) Try.ty132 rfl rfl rfl rfl rfl rfl q53 (Nat.le_of_ble_eq_true rfl) ?_)
      intro w54 hB55 hO56
      have hB55 : Box w54 b15 132 [.string (bs ((p_t.Idxs.getD (((s_l24Idx p_t p_name)).toNat) d_Idx).Name)), .int .i64 ((p_t.Idxs.getD (((s_l24Idx p_t p_name)).toNat) d_Idx).Col), .int .i64 ((p_t.Idxs.getD (((s_l24Idx p_t p_name)).toNat) d_Idx).Stage)] := hB55
      have hO56z := hO56.size
      refine SeqR.d1 rfl rfl rfl (yl_assign rfl rfl ?_)
      refine SeqR.done ?_
      refine tn ?_
      refine CW.ret ?_
      refine rr rfl (.cons ⟨_, rfl, run_loadN Try.ty132 (cs := [.string (bs ((p_t.Idxs.getD (((s_l24Idx p_t p_name)).toNat) d_Idx).Name)), .int .i64 ((p_t.Idxs.getD (((s_l24Idx p_t p_name)).toNat) d_Idx).Col), .int .i64 ((p_t.Idxs.getD (((s_l24Idx p_t p_name)).toNat) d_Idx).Stage)]) rfl (hB55.cells (n := 3) rfl)⟩ (.cons rfl .nil)) ?_
      have hM57 : (s_IdxAt p_t p_name) = (((p_t.Idxs.getD (((s_l24Idx p_t p_name)).toNat) d_Idx), true)) := by simp only [s_IdxAt, hb36, hb37, cond_true, cond_false, loopE_done, loopE_ret]
      rw [hM57]
      have q58 := Ex.trans (Ex.refl w) hE14
      have q59 := Ex.trans q58 hE20
      have q60 := Ex.trans q59 hE28
      have q61 := Ex.trans q60 hE35
      have q62 := Below.only q61 hO56 (by omega)
      exact ⟨rfl, (okL.getD o3.2.2 ok_d_Idx _), q62⟩
  · skip
    refine SeqR.z rfl rfl rfl rfl rfl (not_f hb36) ?_
    refine SeqR.z rfl rfl rfl rfl rfl (not_f hb36) ?_
    refine SeqR.d1 rfl rfl rfl (yl_pick_t rfl rfl (not_f hb36) rfl ?_)
    refine SeqR.done ?_
    refine tn ?_
    refine CW.cond_t rfl rfl ?_
    refine CW.seq ?_
    refine CW.region ?_
    refine SeqR.d1 rfl rfl rfl (yl_build (cs := [.string (bs (([] : Str))), .int .i64 (0), .int .i64 (0)]) rfl opvs_nil (by kernel_rfl) ?_)
    have q63 := Box.ex hB19 hE28
    have q64 := Box.ex q63 hE35
    refine SeqR.u rfl rfl (yl_store (vs := [.string (bs (([] : Str))), .int .i64 (0), .int .i64 (0)]) Try.ty132 rfl rfl rfl rfl rfl rfl q64 (Nat.le_of_ble_eq_true rfl) ?_)
    intro w65 hB66 hO67
    have hB66 : Box w65 b15 132 [.string (bs (([] : Str))), .int .i64 (0), .int .i64 (0)] := hB66
    have hO67z := hO67.size
    refine SeqR.d1 rfl rfl rfl (yl_assign rfl rfl ?_)
    refine SeqR.done ?_
    refine tn ?_
    refine CW.ret ?_
    refine tr ?_
    refine rr rfl (.cons ⟨_, rfl, run_loadN Try.ty132 (cs := [.string (bs (([] : Str))), .int .i64 (0), .int .i64 (0)]) rfl (hB66.cells (n := 3) rfl)⟩ (.cons rfl .nil)) ?_
    have hM68 : (s_IdxAt p_t p_name) = (((⟨([] : Str), 0, 0⟩ : DIdx), false)) := by simp only [s_IdxAt, hb36, cond_true, cond_false, loopE_done, loopE_ret]
    rw [hM68]
    have q69 := Ex.trans (Ex.refl w) hE14
    have q70 := Ex.trans q69 hE20
    have q71 := Ex.trans q70 hE28
    have q72 := Ex.trans q71 hE35
    have q73 := Below.only q72 hO67 (by omega)
    exact ⟨rfl, (okS.lit rfl), q73⟩
end Go.Proofs.Ytmlfbjlkccnpmaa
