/- Good Copy: what each call returns, part 1. -/
import Derived.Test.YtnfjabkdlkejkaaGoodCopyL
import Derived.Test.YtnfjabkdlkejkaaGoodCopyF
set_option linter.unusedVariables false
set_option linter.unusedSimpArgs false
namespace Go.Proofs.Ytnfjabkdlkejkaa
open Go.RowKit Go.X
set_option maxRecDepth 100000 in
set_option maxHeartbeats 2000000 in
theorem c_l_szWrite {w : World} (p_a : DWrite) (p_left : Int) : Cal Try.prog 108 #[.agg #[.string (bs (p_a.Key)), .string (bs (p_a.Val)), .bool (p_a.Gone)], .int .i64 (p_left)] w fun v w' => v = .int .i64 ((l_szWrite p_a p_left)) ∧ Ex w w' := by
  refine Cal.of (vs := [.agg #[.string (bs (p_a.Key)), .string (bs (p_a.Val)), .bool (p_a.Gone)], .int .i64 (p_left)]) Try.func108 rfl Try.ntmps108 rfl ?_
  refine CW.seq ?_
  refine CW.region ?_
  refine SeqR.d1 rfl rfl rfl (yl_box (cs := [.string (bs (p_a.Key)), .string (bs (p_a.Val)), .bool (p_a.Gone)]) rfl rfl rfl ?_)
  intro b1 w2 hs3 hz4 hB5 hE6
  refine SeqR.d1 rfl rfl rfl (yl_assign rfl rfl ?_)
  refine SeqR.done ?_
  refine tn ?_
  refine CW.seq ?_
  refine CW.region ?_
  refine SeqR.d1 rfl rfl rfl (yl_move rfl rfl ?_)
  refine SeqR.d1 rfl rfl rfl (yl_fieldAddr Try.fd138_0 rfl rfl ?_)
  refine SeqR.d1 rfl rfl rfl (yl_load1 Try.ty9 rfl rfl ((hB5.cell 0).trans rfl) ?_)
  refine SeqR.d1 rfl rfl rfl (yl_slen Try.un9 (a := p_a.Key) rfl rfl ?_)
  refine SeqR.d1 rfl rfl rfl (yl_sub rfl rfl rfl ?_)
  refine SeqR.d1 rfl rfl rfl (yl_assign rfl rfl ?_)
  refine SeqR.done ?_
  refine tn ?_
  refine CW.seq ?_
  refine CW.seq ?_
  refine CW.region ?_
  refine SeqR.d1 rfl rfl rfl (yl_move rfl rfl ?_)
  refine SeqR.d1 rfl rfl rfl (yl_lss rfl rfl rfl ?_)
  refine SeqR.done ?_
  refine tn ?_
  refine bcase (decide ((IntKind.wrap .i64 (p_left - (p_a.Key.length : Int))) < 0)) (fun hb7 => ?_) (fun hb7 => ?_)
  · have hb7p := dec_t hb7
    refine CW.cond_t rfl hb7 ?_
    refine CW.seq ?_
    refine CW.region ?_
    refine SeqR.d1 rfl rfl rfl (yl_assign rfl rfl ?_)
    refine SeqR.done ?_
    refine tn ?_
    refine CW.ret ?_
    refine tr ?_
    refine rr rfl (.cons rfl .nil) ?_
    have hM8 : (l_szWrite p_a p_left) = (-1) := by simp only [l_szWrite, hb7, cond_true, cond_false, loopE_done, loopE_ret]
    rw [hM8]
    have q9 := Ex.trans (Ex.refl w) hE6
    exact ⟨rfl, q9⟩
  · have hb7p := dec_f hb7
    refine CW.cond_f rfl hb7 ?_
    refine CW.skip ?_
    refine tn ?_
    refine CW.seq ?_
    refine CW.region ?_
    refine SeqR.d1 rfl rfl rfl (yl_move rfl rfl ?_)
    refine SeqR.d1 rfl rfl rfl (yl_fieldAddr Try.fd138_1 rfl rfl ?_)
    refine SeqR.d1 rfl rfl rfl (yl_load1 Try.ty9 rfl rfl ((hB5.cell 1).trans rfl) ?_)
    refine SeqR.d1 rfl rfl rfl (yl_slen Try.un9 (a := p_a.Val) rfl rfl ?_)
    refine SeqR.d1 rfl rfl rfl (yl_sub rfl rfl rfl ?_)
    refine SeqR.d1 rfl rfl rfl (yl_assign rfl rfl ?_)
    refine SeqR.done ?_
    refine tn ?_
    refine CW.seq ?_
    refine CW.seq ?_
    refine CW.region ?_
    refine SeqR.d1 rfl rfl rfl (yl_move rfl rfl ?_)
    refine SeqR.d1 rfl rfl rfl (yl_lss rfl rfl rfl ?_)
    refine SeqR.done ?_
    refine tn ?_
    refine bcase (decide ((IntKind.wrap .i64 ((IntKind.wrap .i64 (p_left - (p_a.Key.length : Int))) - (p_a.Val.length : Int))) < 0)) (fun hb10 => ?_) (fun hb10 => ?_)
    · have hb10p := dec_t hb10
      refine CW.cond_t rfl hb10 ?_
      refine CW.seq ?_
      refine CW.region ?_
      refine SeqR.d1 rfl rfl rfl (yl_assign rfl rfl ?_)
      refine SeqR.done ?_
      refine tn ?_
      refine CW.ret ?_
      refine tr ?_
      refine rr rfl (.cons rfl .nil) ?_
      have hM11 : (l_szWrite p_a p_left) = (-1) := by simp only [l_szWrite, hb7, hb10, cond_true, cond_false, loopE_done, loopE_ret]
      rw [hM11]
      have q12 := Ex.trans (Ex.refl w) hE6
      exact ⟨rfl, q12⟩
    · have hb10p := dec_f hb10
      refine CW.cond_f rfl hb10 ?_
      refine CW.skip ?_
      refine tn ?_
      refine CW.seq ?_
      refine CW.region ?_
      refine SeqR.d1 rfl rfl rfl (yl_move rfl rfl ?_)
      refine SeqR.d1 rfl rfl rfl (yl_assign rfl rfl ?_)
      refine SeqR.done ?_
      refine tn ?_
      refine CW.ret ?_
      refine rr rfl (.cons rfl .nil) ?_
      have hM13 : (l_szWrite p_a p_left) = (IntKind.wrap .i64 ((IntKind.wrap .i64 (p_left - (p_a.Key.length : Int))) - (p_a.Val.length : Int))) := by simp only [l_szWrite, hb7, hb10, cond_true, cond_false, loopE_done, loopE_ret]
      rw [hM13]
      have q14 := Ex.trans (Ex.refl w) hE6
      exact ⟨rfl, q14⟩
set_option maxRecDepth 100000 in
set_option maxHeartbeats 2000000 in
theorem c_l_szWriteS {A1 : Option Addr} {c1 : Nat} {w : World} (p_a : List DWrite) (p_left : Int) (h1 : RdS w (Iv 0 w.heap.size) (RF e_Write) 3 A1 p_a.length c1 p_a) : Cal Try.prog 83 #[.slice A1 p_a.length c1, .int .i64 (p_left)] w fun v w' => v = .int .i64 ((l_szWriteS p_a p_left)) ∧ Ex w w' := by
  refine Cal.of (vs := [.slice A1 p_a.length c1, .int .i64 (p_left)]) Try.func83 rfl Try.ntmps83 rfl ?_
  refine CW.seq ?_
  refine CW.region ?_
  refine SeqR.d1 rfl rfl rfl (yl_assign rfl rfl ?_)
  refine SeqR.done ?_
  refine tn ?_
  refine CW.seq ?_
  refine CW.region ?_
  refine SeqR.d1 rfl rfl rfl (yl_move rfl rfl ?_)
  refine SeqR.d1 rfl rfl rfl (yl_move rfl rfl ?_)
  refine SeqR.d1 rfl rfl rfl (yl_len Try.un62 rfl rfl ?_)
  refine SeqR.d1 rfl rfl rfl (yl_sub rfl rfl rfl ?_)
  refine SeqR.d1 rfl rfl rfl (yl_assign rfl rfl ?_)
  refine SeqR.done ?_
  refine tn ?_
  refine CW.seq ?_
  refine CW.seq ?_
  refine CW.region ?_
  refine SeqR.d1 rfl rfl rfl (yl_move rfl rfl ?_)
  refine SeqR.d1 rfl rfl rfl (yl_lss rfl rfl rfl ?_)
  refine SeqR.done ?_
  refine tn ?_
  refine bcase (decide ((IntKind.wrap .i64 (p_left - (p_a.length : Int))) < 0)) (fun hb2 => ?_) (fun hb2 => ?_)
  · have hb2p := dec_t hb2
    refine CW.cond_t rfl hb2 ?_
    refine CW.seq ?_
    refine CW.region ?_
    refine SeqR.d1 rfl rfl rfl (yl_assign rfl rfl ?_)
    refine SeqR.done ?_
    refine tn ?_
    refine CW.ret ?_
    refine tr ?_
    refine rr rfl (.cons rfl .nil) ?_
    have hM3 : (l_szWriteS p_a p_left) = (-1) := by simp only [l_szWriteS, hb2, cond_true, cond_false, loopE_done, loopE_ret]
    rw [hM3]
    exact ⟨rfl, (Ex.refl w)⟩
  · have hb2p := dec_f hb2
    refine CW.cond_f rfl hb2 ?_
    refine CW.skip ?_
    refine tn ?_
    refine CW.seq ?_
    refine CW.seq ?_
    refine CW.region ?_
    refine SeqR.d1 rfl rfl rfl (yl_assign rfl rfl ?_)
    refine SeqR.done ?_
    refine tn ?_
    refine CW.block ?_
    refine CW.loop (fun m6 L7 w8 => ∃ (k4 : Nat) (x5 : Int), m6 = p_a.length - k4 ∧ k4 ≤ p_a.length ∧ lkp L7 0 = some (.slice A1 p_a.length c1) ∧ lkp L7 1 = some (.int .i64 (x5)) ∧ lkp L7 5 = some (.int .i64 ((k4 : Int))) ∧ RdS w8 (Iv 0 w.heap.size) (RF e_Write) 3 A1 p_a.length c1 p_a ∧ Ex w w8 ∧ loopM (B_l_szWriteS_0 p_a p_left) (p_a.length - k4) k4 (x5) = loopM (B_l_szWriteS_0 p_a p_left) (p_a.length - 0) 0 (IntKind.wrap .i64 (p_left - (p_a.length : Int)))) (p_a.length - 0) ?_ ?_
    · exact ⟨0, IntKind.wrap .i64 (p_left - (p_a.length : Int)), rfl, Nat.zero_le _, rfl, rfl, rfl, h1, (Ex.refl w), rfl⟩
    · rintro m9 L10 w11 ⟨k4, x5, rfl, hk12, hl14, hl15, hl16, hf17, hf18, hI13⟩
      refine CW.sub (Sub.cons hl14 (Sub.cons hl15 (Sub.cons hl16 (Sub.nil _)))) ?_
      have hf18z := Ex.size hf18
      have hbg19 := RdS.big hf17
      rcases Nat.lt_or_ge k4 p_a.length with hlt20 | hlt20
      · skip
        refine CW.seq ?_
        refine CW.seq ?_
        refine CW.region ?_
        refine SeqR.d1 rfl rfl rfl (yl_move rfl rfl ?_)
        refine SeqR.d1 rfl rfl rfl (yl_move rfl rfl ?_)
        refine SeqR.d1 rfl rfl rfl (yl_len Try.un62 rfl rfl ?_)
        refine SeqR.d1 rfl rfl rfl (yl_lss rfl rfl rfl ?_)
        refine SeqR.done ?_
        refine tn ?_
        refine CW.cond_t rfl (lt_t hlt20) ?_
        refine CW.skip ?_
        refine tn ?_
        refine CW.seq ?_
        refine CW.block ?_
        refine CW.seq ?_
        refine CW.region ?_
        refine SeqR.d1 rfl rfl rfl (yl_move rfl rfl ?_)
        refine SeqR.d1 rfl rfl rfl (yl_move rfl rfl ?_)
        obtain ⟨eb21, eo21, ec21, eA21, eS21, ebl21, el21, eR21, eC21⟩ := RdS.atD hf17 d_Write (i := k4) (by first | omega | assumption)
        obtain rfl := eR21
        have eC21 : Cells w11 eb21 (eo21 + k4 * 3) [.string (bs ((p_a.getD k4 d_Write).Key)), .string (bs ((p_a.getD k4 d_Write).Val)), .bool ((p_a.getD k4 d_Write).Gone)] := eC21
        refine SeqR.d1 rfl rfl rfl (yl_indexAddrN Try.un62 Try.ty138 rfl rfl rfl eA21 (by first | omega | assumption | (simp only [IntKind.wrap_i64] at *; omega)) ?_)
        refine SeqR.d1 rfl rfl rfl (yl_loadN (cs := [.string (bs ((p_a.getD k4 d_Write).Key)), .string (bs ((p_a.getD k4 d_Write).Val)), .bool ((p_a.getD k4 d_Write).Gone)]) Try.ty138 rfl rfl eC21 rfl ?_)
        refine SeqR.d1 rfl rfl rfl (yl_move rfl rfl ?_)
        refine SeqR.d1 rfl rfl rfl (yl_call Try.en108 rfl (opvs_cons rfl (opvs_cons rfl opvs_nil)) (Cal.mono (c_l_szWrite (p_a.getD k4 d_Write) x5) ?_))
        rintro v23 w22 ⟨rfl, hE24⟩
        have hE24z := Ex.size hE24
        refine SeqR.d1 rfl rfl rfl (yl_assign rfl rfl ?_)
        refine SeqR.done ?_
        refine tn ?_
        refine CW.seq ?_
        refine CW.region ?_
        refine SeqR.d1 rfl rfl rfl (yl_move rfl rfl ?_)
        refine SeqR.d1 rfl rfl rfl (yl_lss rfl rfl rfl ?_)
        refine SeqR.done ?_
        refine tn ?_
        refine bcase (decide ((l_szWrite (p_a.getD k4 d_Write) x5) < 0)) (fun hb25 => ?_) (fun hb25 => ?_)
        · have hb25p := dec_t hb25
          refine CW.cond_t rfl hb25 ?_
          refine CW.seq ?_
          refine CW.region ?_
          refine SeqR.d1 rfl rfl rfl (yl_assign rfl rfl ?_)
          refine SeqR.done ?_
          refine tn ?_
          refine CW.ret ?_
          refine br ?_
          refine tr ?_
          refine tr ?_
          have hB27 : B_l_szWriteS_0 p_a p_left k4 (x5) = .ret (-1) := by simp only [B_l_szWriteS_0, hb2, hb25, cond_true, cond_false, loopE_done, loopE_ret]
          have hL26 : loopM (B_l_szWriteS_0 p_a p_left) (p_a.length - 0) 0 (IntKind.wrap .i64 (p_left - (p_a.length : Int))) = .ret (-1) := hI13.symm.trans (loopM.ret hlt20 hB27)
          refine br ?_
          refine tr ?_
          refine rr rfl (.cons rfl .nil) ?_
          have hM28 : (l_szWriteS p_a p_left) = (-1) := by simp only [l_szWriteS, hb2, hb25, hL26, cond_true, cond_false, loopE_done, loopE_ret]
          rw [hM28]
          have q29 := Ex.trans hf18 hE24
          exact ⟨rfl, q29⟩
        · have hb25p := dec_f hb25
          refine CW.cond_f rfl hb25 ?_
          refine CW.skip ?_
          refine bn ?_
          refine tn ?_
          refine CW.region ?_
          refine SeqR.d1 rfl rfl rfl (yl_move rfl rfl ?_)
          refine SeqR.d1 rfl rfl rfl (yl_inc rfl rfl rfl (by omega) ?_)
          refine SeqR.d1 rfl rfl rfl (yl_assign rfl rfl ?_)
          refine SeqR.done ?_
          refine tn ?_
          have hB30 : B_l_szWriteS_0 p_a p_left k4 (x5) = .cont ((l_szWrite (p_a.getD k4 d_Write) x5)) := by simp only [B_l_szWriteS_0, hb2, hb25, cond_true, cond_false, loopE_done, loopE_ret]
          have q31 := RdS.ex good_Write hf17 hE24
          have q32 := Ex.trans hf18 hE24
          exact ⟨p_a.length - (k4 + 1), by omega, k4 + 1, (l_szWrite (p_a.getD k4 d_Write) x5), rfl, hlt20, rfl, rfl, rfl, q31, q32, (loopM.cont hlt20 hB30).symm.trans hI13⟩
      · skip
        refine CW.seq ?_
        refine CW.seq ?_
        refine CW.region ?_
        refine SeqR.d1 rfl rfl rfl (yl_move rfl rfl ?_)
        refine SeqR.d1 rfl rfl rfl (yl_move rfl rfl ?_)
        refine SeqR.d1 rfl rfl rfl (yl_len Try.un62 rfl rfl ?_)
        refine SeqR.d1 rfl rfl rfl (yl_lss rfl rfl rfl ?_)
        refine SeqR.done ?_
        refine tn ?_
        refine CW.cond_f rfl (lt_f hlt20) ?_
        refine CW.exit ?_
        refine tx ?_
        refine tx ?_
        have hL33 : loopM (B_l_szWriteS_0 p_a p_left) (p_a.length - 0) 0 (IntKind.wrap .i64 (p_left - (p_a.length : Int))) = .done (x5) := hI13.symm.trans (loopM.stop hlt20)
        refine bx ?_
        refine tn ?_
        refine CW.seq ?_
        refine CW.region ?_
        refine SeqR.d1 rfl rfl rfl (yl_move rfl rfl ?_)
        refine SeqR.d1 rfl rfl rfl (yl_assign rfl rfl ?_)
        refine SeqR.done ?_
        refine tn ?_
        refine CW.ret ?_
        refine rr rfl (.cons rfl .nil) ?_
        have hM34 : (l_szWriteS p_a p_left) = (x5) := by simp only [l_szWriteS, hb2, hL33, cond_true, cond_false, loopE_done, loopE_ret]
        rw [hM34]
        exact ⟨rfl, hf18⟩
set_option maxRecDepth 100000 in
set_option maxHeartbeats 2000000 in
theorem c_l_szCopy {A1 : Option Addr} {c1 : Nat} {w : World} (p_a : DCopy) (p_left : Int) (h1 : RdS w (Iv 0 w.heap.size) (RF e_Write) 3 A1 p_a.Rows.length c1 p_a.Rows) : Cal Try.prog 37 #[.agg #[.int .i64 (p_a.Time), .slice A1 p_a.Rows.length c1], .int .i64 (p_left)] w fun v w' => v = .int .i64 ((l_szCopy p_a p_left)) ∧ Ex w w' := by
  refine Cal.of (vs := [.agg #[.int .i64 (p_a.Time), .slice A1 p_a.Rows.length c1], .int .i64 (p_left)]) Try.func37 rfl Try.ntmps37 rfl ?_
  refine CW.seq ?_
  refine CW.region ?_
  refine SeqR.d1 rfl rfl rfl (yl_box (cs := [.int .i64 (p_a.Time), .slice A1 p_a.Rows.length c1]) rfl rfl rfl ?_)
  intro b2 w3 hs4 hz5 hB6 hE7
  refine SeqR.d1 rfl rfl rfl (yl_assign rfl rfl ?_)
  refine SeqR.done ?_
  refine tn ?_
  refine CW.seq ?_
  refine CW.region ?_
  refine SeqR.d1 rfl rfl rfl (yl_fieldAddr Try.fd64_1 rfl rfl ?_)
  refine SeqR.d1 rfl rfl rfl (yl_load1 Try.ty62 rfl rfl ((hB6.cell 1).trans rfl) ?_)
  refine SeqR.d1 rfl rfl rfl (yl_move rfl rfl ?_)
  have q8 := RdS.ex good_Write h1 hE7
  refine SeqR.d1 rfl rfl rfl (yl_call Try.en83 rfl (opvs_cons rfl (opvs_cons rfl opvs_nil)) (Cal.mono (c_l_szWriteS p_a.Rows p_left (RdS.up q8 good_Write)) ?_))
  rintro v10 w9 ⟨rfl, hE11⟩
  have hE11z := Ex.size hE11
  refine SeqR.d1 rfl rfl rfl (yl_assign rfl rfl ?_)
  refine SeqR.done ?_
  refine tn ?_
  refine CW.seq ?_
  refine CW.seq ?_
  refine CW.region ?_
  refine SeqR.d1 rfl rfl rfl (yl_move rfl rfl ?_)
  refine SeqR.d1 rfl rfl rfl (yl_lss rfl rfl rfl ?_)
  refine SeqR.done ?_
  refine tn ?_
  refine bcase (decide ((l_szWriteS p_a.Rows p_left) < 0)) (fun hb12 => ?_) (fun hb12 => ?_)
  · have hb12p := dec_t hb12
    refine CW.cond_t rfl hb12 ?_
    refine CW.seq ?_
    refine CW.region ?_
    refine SeqR.d1 rfl rfl rfl (yl_assign rfl rfl ?_)
    refine SeqR.done ?_
    refine tn ?_
    refine CW.ret ?_
    refine tr ?_
    refine rr rfl (.cons rfl .nil) ?_
    have hM13 : (l_szCopy p_a p_left) = (-1) := by simp only [l_szCopy, hb12, cond_true, cond_false, loopE_done, loopE_ret]
    rw [hM13]
    have q14 := Ex.trans (Ex.refl w) hE7
    have q15 := Ex.trans q14 hE11
    exact ⟨rfl, q15⟩
  · have hb12p := dec_f hb12
    refine CW.cond_f rfl hb12 ?_
    refine CW.skip ?_
    refine tn ?_
    refine CW.seq ?_
    refine CW.region ?_
    refine SeqR.d1 rfl rfl rfl (yl_move rfl rfl ?_)
    refine SeqR.d1 rfl rfl rfl (yl_assign rfl rfl ?_)
    refine SeqR.done ?_
    refine tn ?_
    refine CW.ret ?_
    refine rr rfl (.cons rfl .nil) ?_
    have hM16 : (l_szCopy p_a p_left) = ((l_szWriteS p_a.Rows p_left)) := by simp only [l_szCopy, hb12, cond_true, cond_false, loopE_done, loopE_ret]
    rw [hM16]
    have q17 := Ex.trans (Ex.refl w) hE7
    have q18 := Ex.trans q17 hE11
    exact ⟨rfl, q18⟩
set_option maxRecDepth 100000 in
set_option maxHeartbeats 2000000 in
theorem c_s_l1In {w : World} (p_n : Int) (p_lo : Int) (p_hi : Int) : Cal Try.prog 50 #[.int .i64 (p_n), .int .i64 (p_lo), .int .i64 (p_hi)] w fun v w' => v = .bool ((s_l1In p_n p_lo p_hi)) ∧ Ex w w' := by
  refine Cal.of (vs := [.int .i64 (p_n), .int .i64 (p_lo), .int .i64 (p_hi)]) Try.func50 rfl Try.ntmps50 rfl ?_
  refine CW.seq ?_
  refine CW.region ?_
  refine SeqR.d1 rfl rfl rfl (yl_assign rfl rfl ?_)
  refine SeqR.done ?_
  refine tn ?_
  refine CW.seq ?_
  refine CW.region ?_
  refine SeqR.d1 rfl rfl rfl (yl_move rfl rfl ?_)
  refine SeqR.d1 rfl rfl rfl (yl_move rfl rfl ?_)
  refine SeqR.d1 rfl rfl rfl (yl_geq rfl rfl rfl ?_)
  refine SeqR.d1 rfl rfl rfl (yl_move rfl rfl ?_)
  refine bcase (decide (p_lo ≤ p_n)) (fun hb1 => ?_) (fun hb1 => ?_)
  · have hb1p := dec_t hb1
    refine SeqR.y rfl rfl rfl rfl rfl hb1 (yl_move rfl rfl ?_)
    refine SeqR.y rfl rfl rfl rfl rfl hb1 (yl_move rfl rfl ?_)
    refine SeqR.y rfl rfl rfl rfl rfl hb1 (yl_leq rfl rfl rfl ?_)
    refine SeqR.d1 rfl rfl rfl (yl_pick_t rfl rfl hb1 rfl ?_)
    refine SeqR.d1 rfl rfl rfl (yl_assign rfl rfl ?_)
    refine SeqR.done ?_
    refine tn ?_
    refine CW.ret ?_
    refine rr rfl (.cons rfl .nil) ?_
    have hM2 : (s_l1In p_n p_lo p_hi) = (decide (p_n ≤ p_hi)) := by simp only [s_l1In, hb1, cond_true, cond_false, loopE_done, loopE_ret]
    rw [hM2]
    exact ⟨rfl, (Ex.refl w)⟩
  · have hb1p := dec_f hb1
    refine SeqR.z rfl rfl rfl rfl rfl hb1 ?_
    refine SeqR.z rfl rfl rfl rfl rfl hb1 ?_
    refine SeqR.z rfl rfl rfl rfl rfl hb1 ?_
    refine SeqR.d1 rfl rfl rfl (yl_pick_f rfl rfl hb1 rfl ?_)
    refine SeqR.d1 rfl rfl rfl (yl_assign rfl rfl ?_)
    refine SeqR.done ?_
    refine tn ?_
    refine CW.ret ?_
    refine rr rfl (.cons rfl .nil) ?_
    have hM3 : (s_l1In p_n p_lo p_hi) = (false) := by simp only [s_l1In, hb1, cond_true, cond_false, loopE_done, loopE_ret]
    rw [hM3]
    exact ⟨rfl, (Ex.refl w)⟩
set_option maxRecDepth 100000 in
set_option maxHeartbeats 2000000 in
theorem c_s_l3Bytes {w : World} (p_s : Str) (p_more : Str) (o1 : okS p_s) (o2 : okS p_more) : Cal Try.prog 99 #[.string (bs (p_s)), .string (bs (p_more))] w fun v w' => v = .bool ((s_l3Bytes p_s p_more)) ∧ Ex w w' := by
  have hol3 : p_s.length ≤ 1073741824 := o1
  have hol4 : p_more.length ≤ 1073741824 := o2
  refine Cal.of (vs := [.string (bs (p_s)), .string (bs (p_more))]) Try.func99 rfl Try.ntmps99 rfl ?_
  refine CW.seq ?_
  refine CW.region ?_
  refine SeqR.d1 rfl rfl rfl (yl_assign rfl rfl ?_)
  refine SeqR.done ?_
  refine tn ?_
  refine CW.seq ?_
  refine CW.seq ?_
  refine CW.region ?_
  refine SeqR.d1 rfl rfl rfl (yl_assign rfl rfl ?_)
  refine SeqR.done ?_
  refine tn ?_
  refine CW.block ?_
  refine CW.loop (fun m6 L7 w8 => ∃ (k5 : Nat), m6 = p_s.length - k5 ∧ k5 ≤ p_s.length ∧ lkp L7 0 = some (.string (bs (p_s))) ∧ lkp L7 1 = some (.string (bs (p_more))) ∧ lkp L7 5 = some (.int .i64 ((k5 : Int))) ∧ Ex w w8 ∧ loopM (B_s_l3Bytes_0 p_s p_more) (p_s.length - k5) k5 () = loopM (B_s_l3Bytes_0 p_s p_more) (p_s.length - 0) 0 ()) (p_s.length - 0) ?_ ?_
  · exact ⟨0, rfl, Nat.zero_le _, rfl, rfl, rfl, (Ex.refl w), rfl⟩
  · rintro m9 L10 w11 ⟨k5, rfl, hk12, hl14, hl15, hl16, hf17, hI13⟩
    refine CW.sub (Sub.cons hl14 (Sub.cons hl15 (Sub.cons hl16 (Sub.nil _)))) ?_
    have hf17z := Ex.size hf17
    have hbg18 : p_s.length ≤ 1073741824 := o1
    rcases Nat.lt_or_ge k5 p_s.length with hlt19 | hlt19
    · skip
      refine CW.seq ?_
      refine CW.seq ?_
      refine CW.region ?_
      refine SeqR.d1 rfl rfl rfl (yl_move rfl rfl ?_)
      refine SeqR.d1 rfl rfl rfl (yl_move rfl rfl ?_)
      refine SeqR.d1 rfl rfl rfl (yl_slen Try.un9 (a := p_s) rfl rfl ?_)
      refine SeqR.d1 rfl rfl rfl (yl_lss rfl rfl rfl ?_)
      refine SeqR.done ?_
      refine tn ?_
      refine CW.cond_t rfl (lt_t hlt19) ?_
      refine CW.skip ?_
      refine tn ?_
      refine CW.seq ?_
      refine CW.block ?_
      refine CW.seq ?_
      refine CW.region ?_
      refine SeqR.d1 rfl rfl rfl (yl_move rfl rfl ?_)
      refine SeqR.d1 rfl rfl rfl (yl_move rfl rfl ?_)
      refine SeqR.d1 rfl rfl rfl (yl_sindexN Try.un9 (a := p_s) rfl rfl rfl (by first | omega | assumption | (simp only [IntKind.wrap_i64] at *; omega)) ?_)
      refine SeqR.d1 rfl rfl rfl (yl_geq rfl rfl rfl ?_)
      refine SeqR.d1 rfl rfl rfl (yl_move rfl rfl ?_)
      refine bcase (decide (97 ≤ ((p_s.getD k5 0).toNat : Int))) (fun hb20 => ?_) (fun hb20 => ?_)
      · have hb20p := dec_t hb20
        refine SeqR.y rfl rfl rfl rfl rfl hb20 (yl_move rfl rfl ?_)
        refine SeqR.y rfl rfl rfl rfl rfl hb20 (yl_move rfl rfl ?_)
        refine SeqR.y rfl rfl rfl rfl rfl hb20 (yl_sindexN Try.un9 (a := p_s) rfl rfl rfl (by first | omega | assumption | (simp only [IntKind.wrap_i64] at *; omega)) ?_)
        refine SeqR.y rfl rfl rfl rfl rfl hb20 (yl_leq rfl rfl rfl ?_)
        refine SeqR.d1 rfl rfl rfl (yl_pick_t rfl rfl hb20 rfl ?_)
        refine SeqR.d1 rfl rfl rfl (yl_move rfl rfl ?_)
        refine bcase (decide (((p_s.getD k5 0).toNat : Int) ≤ 122)) (fun hb21 => ?_) (fun hb21 => ?_)
        · have hb21p := dec_t hb21
          refine SeqR.z rfl rfl rfl rfl rfl hb21 ?_
          refine SeqR.z rfl rfl rfl rfl rfl hb21 ?_
          refine SeqR.z rfl rfl rfl rfl rfl hb21 ?_
          refine SeqR.z rfl rfl rfl rfl rfl hb21 ?_
          refine SeqR.z rfl rfl rfl rfl rfl hb21 ?_
          refine SeqR.q rfl rfl rfl rfl rfl ?_
          refine SeqR.q rfl rfl rfl rfl rfl ?_
          refine SeqR.q rfl rfl rfl rfl rfl ?_
          refine SeqR.q rfl rfl rfl rfl rfl ?_
          refine SeqR.z rfl rfl rfl rfl rfl hb21 ?_
          refine SeqR.d1 rfl rfl rfl (yl_pick_t rfl rfl hb21 rfl ?_)
          refine SeqR.d1 rfl rfl rfl (yl_assign rfl rfl ?_)
          refine SeqR.done ?_
          refine tn ?_
          refine CW.seq ?_
          refine CW.seq ?_
          refine CW.region ?_
          refine SeqR.d1 rfl rfl rfl (yl_assign rfl rfl ?_)
          refine SeqR.done ?_
          refine tn ?_
          refine CW.block ?_
          refine CW.loop (fun m24 L25 w26 => ∃ (k22 : Nat) (x23 : Bool), m24 = p_more.length - k22 ∧ k22 ≤ p_more.length ∧ lkp L25 0 = some (.string (bs (p_s))) ∧ lkp L25 1 = some (.string (bs (p_more))) ∧ lkp L25 5 = some (.int .i64 ((k5 : Int))) ∧ lkp L25 6 = some (.bool (x23)) ∧ lkp L25 7 = some (.int .i64 ((k22 : Int))) ∧ lkp L25 19 = some (.string (bs (p_s))) ∧ lkp L25 20 = some (.int .i64 ((k5 : Int))) ∧ lkp L25 21 = some (.int .u8 (((p_s.getD k5 0).toNat : Int))) ∧ lkp L25 22 = some (.bool (decide (((p_s.getD k5 0).toNat : Int) ≤ 122))) ∧ lkp L25 25 = some (undef) ∧ lkp L25 26 = some (undef) ∧ lkp L25 27 = some (undef) ∧ lkp L25 28 = some (undef) ∧ lkp L25 29 = some (undef) ∧ lkp L25 30 = some (undef) ∧ lkp L25 31 = some (undef) ∧ lkp L25 32 = some (undef) ∧ lkp L25 33 = some (undef) ∧ lkp L25 34 = some (undef) ∧ Ex w w26 ∧ loopM (B_s_l3Bytes_1 p_s p_more k5) (p_more.length - k22) k22 (x23) = loopM (B_s_l3Bytes_1 p_s p_more k5) (p_more.length - 0) 0 (true)) (p_more.length - 0) ?_ ?_
          · exact ⟨0, true, rfl, Nat.zero_le _, rfl, rfl, rfl, rfl, rfl, rfl, rfl, rfl, rfl, rfl, rfl, rfl, rfl, rfl, rfl, rfl, rfl, rfl, rfl, hf17, rfl⟩
          · rintro m27 L28 w29 ⟨k22, x23, rfl, hk30, hl32, hl33, hl34, hl35, hl36, hl37, hl38, hl39, hl40, hl41, hl42, hl43, hl44, hl45, hl46, hl47, hl48, hl49, hl50, hf51, hI31⟩
            refine CW.sub (Sub.cons hl32 (Sub.cons hl33 (Sub.cons hl34 (Sub.cons hl35 (Sub.cons hl36 (Sub.cons hl37 (Sub.cons hl38 (Sub.cons hl39 (Sub.cons hl40 (Sub.cons hl41 (Sub.cons hl42 (Sub.cons hl43 (Sub.cons hl44 (Sub.cons hl45 (Sub.cons hl46 (Sub.cons hl47 (Sub.cons hl48 (Sub.cons hl49 (Sub.cons hl50 (Sub.nil _)))))))))))))))))))) ?_
            have hf51z := Ex.size hf51
            have hbg52 : p_more.length ≤ 1073741824 := o2
            rcases Nat.lt_or_ge k22 p_more.length with hlt53 | hlt53
            · skip
              refine CW.seq ?_
              refine CW.seq ?_
              refine CW.region ?_
              refine SeqR.d1 rfl rfl rfl (yl_move rfl rfl ?_)
              refine SeqR.d1 rfl rfl rfl (yl_move rfl rfl ?_)
              refine SeqR.d1 rfl rfl rfl (yl_slen Try.un9 (a := p_more) rfl rfl ?_)
              refine SeqR.d1 rfl rfl rfl (yl_lss rfl rfl rfl ?_)
              refine SeqR.done ?_
              refine tn ?_
              refine CW.cond_t rfl (lt_t hlt53) ?_
              refine CW.skip ?_
              refine tn ?_
              refine CW.seq ?_
              refine CW.block ?_
              refine bcase (x23) (fun hb54 => ?_) (fun hb54 => ?_)
              · skip
                refine CW.drawsI 11 (vgetI [DetI (.bool (x23)), DetI (.bool (x23)), DetI (undef), DetI (undef), DetI (undef), DetI (undef), DetI (undef), DetI (undef), DetI (undef), DetI (.bool (true)), DetI (.bool (true))]) Try.follows rfl rfl rfl rfl rfl rfl (vgetI_stable ⟨StableI.det _, StableI.det _, StableI.det _, StableI.det _, StableI.det _, StableI.det _, StableI.det _, StableI.det _, StableI.det _, StableI.det _, StableI.det _, trivial⟩) ⟨?_, ?_, ?_, ?_, ?_, ?_, ?_, ?_, ?_, ?_, ?_, trivial⟩ ?_
                · intro L55 w56 hi57
                  have hE58 := hi57.ex
                  have hE58z := Ex.size hE58
                  have hx59 := hi57.old 6 _ rfl rfl
                  exact OpR.op' rfl (Yl.sameI (yl_move rfl hx59 ⟨fun _ _ => rfl, rfl⟩))
                · intro L60 w61 hi62
                  have hE63 := hi62.ex
                  have hE63z := Ex.size hE63
                  obtain ⟨_, _, _, hx64, -, -, -, rfl⟩ := hi62.dep 0 42 rfl rfl
                  exact OpR.op' rfl (Yl.sameI (yl_move rfl hx64 ⟨fun _ _ => rfl, rfl⟩))
                · intro L65 w66 hi67
                  have hE68 := hi67.ex
                  have hE68z := Ex.size hE68
                  obtain ⟨_, _, _, hx69, -, -, -, rfl⟩ := hi67.dep 1 43 rfl rfl
                  exact OpR.skip rfl rfl hx69 hb54 ⟨rfl, Ex.refl _⟩
                · intro L70 w71 hi72
                  have hE73 := hi72.ex
                  have hE73z := Ex.size hE73
                  obtain ⟨_, _, _, hx74, -, -, -, rfl⟩ := hi72.dep 1 43 rfl rfl
                  exact OpR.skip rfl rfl hx74 hb54 ⟨rfl, Ex.refl _⟩
                · intro L75 w76 hi77
                  have hE78 := hi77.ex
                  have hE78z := Ex.size hE78
                  obtain ⟨_, _, _, hx79, -, -, -, rfl⟩ := hi77.dep 1 43 rfl rfl
                  exact OpR.skip rfl rfl hx79 hb54 ⟨rfl, Ex.refl _⟩
                · intro L80 w81 hi82
                  have hE83 := hi82.ex
                  have hE83z := Ex.size hE83
                  obtain ⟨_, _, _, hx84, -, -, -, rfl⟩ := hi82.dep 1 43 rfl rfl
                  exact OpR.skip rfl rfl hx84 hb54 ⟨rfl, Ex.refl _⟩
                · intro L85 w86 hi87
                  have hE88 := hi87.ex
                  have hE88z := Ex.size hE88
                  obtain ⟨_, _, _, hx89, -, -, -, rfl⟩ := hi87.dep 1 43 rfl rfl
                  exact OpR.skip rfl rfl hx89 hb54 ⟨rfl, Ex.refl _⟩
                · intro L90 w91 hi92
                  have hE93 := hi92.ex
                  have hE93z := Ex.size hE93
                  obtain ⟨_, _, _, hx94, -, -, -, rfl⟩ := hi92.dep 1 43 rfl rfl
                  exact OpR.skip rfl rfl hx94 hb54 ⟨rfl, Ex.refl _⟩
                · intro L95 w96 hi97
                  have hE98 := hi97.ex
                  have hE98z := Ex.size hE98
                  obtain ⟨_, _, _, hx99, -, -, -, rfl⟩ := hi97.dep 1 43 rfl rfl
                  exact OpR.skip rfl rfl hx99 hb54 ⟨rfl, Ex.refl _⟩
                · intro L100 w101 hi102
                  have hE103 := hi102.ex
                  have hE103z := Ex.size hE103
                  obtain ⟨_, _, _, hx104, -, -, -, rfl⟩ := hi102.dep 8 50 rfl rfl
                  obtain ⟨_, _, _, hx105, -, -, -, rfl⟩ := hi102.dep 1 43 rfl rfl
                  exact OpR.op' rfl (Yl.sameI (yl_pick_t rfl hx105 hb54 rfl ⟨fun _ _ => rfl, rfl⟩))
                · intro L106 w107 hi108
                  have hE109 := hi108.ex
                  have hE109z := Ex.size hE109
                  obtain ⟨_, _, _, hx110, -, -, -, rfl⟩ := hi108.dep 9 51 rfl rfl
                  exact OpR.op' rfl (Yl.sameI (yl_assign rfl hx110 ⟨fun _ _ => rfl, rfl⟩))
                · intro fl114 fh115 L111 w112 hp113
                  have hE116 := hp113.ex
                  have hE116z := Ex.size hE116
                  have hx117 := hp113.old 0 _ rfl rfl
                  have hx118 := hp113.old 1 _ rfl rfl
                  have hx119 := hp113.old 5 _ rfl rfl
                  have hx120 := hp113.old 7 _ rfl rfl
                  have hx121 := hp113.old 19 _ rfl rfl
                  have hx122 := hp113.old 20 _ rfl rfl
                  have hx123 := hp113.old 21 _ rfl rfl
                  have hx124 := hp113.old 22 _ rfl rfl
                  have hx125 := hp113.old 25 _ rfl rfl
                  have hx126 := hp113.old 26 _ rfl rfl
                  have hx127 := hp113.old 27 _ rfl rfl
                  have hx128 := hp113.old 28 _ rfl rfl
                  have hx129 := hp113.old 29 _ rfl rfl
                  have hx130 := hp113.old 30 _ rfl rfl
                  have hx131 := hp113.old 31 _ rfl rfl
                  have hx132 := hp113.old 32 _ rfl rfl
                  have hx133 := hp113.old 33 _ rfl rfl
                  have hx134 := hp113.old 34 _ rfl rfl
                  obtain ⟨_, hx135, rfl⟩ := hp113.new 2 44 rfl rfl
                  obtain ⟨_, hx136, rfl⟩ := hp113.new 3 45 rfl rfl
                  obtain ⟨_, hx137, rfl⟩ := hp113.new 4 46 rfl rfl
                  obtain ⟨_, hx138, rfl⟩ := hp113.new 5 47 rfl rfl
                  obtain ⟨_, hx139, rfl⟩ := hp113.new 6 48 rfl rfl
                  obtain ⟨_, hx140, rfl⟩ := hp113.new 7 49 rfl rfl
                  obtain ⟨_, hx141, rfl⟩ := hp113.new 8 50 rfl rfl
                  obtain ⟨_, hx142, rfl⟩ := hp113.new 10 6 rfl rfl
                  refine SeqR.done ?_
                  refine bn ?_
                  refine tn ?_
                  refine CW.sub (Sub.cons (d := 0) hx117 (Sub.cons (d := 1) hx118 (Sub.cons (d := 5) hx119 (Sub.cons (d := 6) hx142 (Sub.cons (d := 7) hx120 (Sub.cons (d := 19) hx121 (Sub.cons (d := 20) hx122 (Sub.cons (d := 21) hx123 (Sub.cons (d := 22) hx124 (Sub.cons (d := 25) hx125 (Sub.cons (d := 26) hx126 (Sub.cons (d := 27) hx127 (Sub.cons (d := 28) hx128 (Sub.cons (d := 29) hx129 (Sub.cons (d := 30) hx130 (Sub.cons (d := 31) hx131 (Sub.cons (d := 32) hx132 (Sub.cons (d := 33) hx133 (Sub.cons (d := 34) hx134 (Sub.cons (d := 44) hx135 (Sub.cons (d := 45) hx136 (Sub.cons (d := 46) hx137 (Sub.cons (d := 47) hx138 (Sub.cons (d := 48) hx139 (Sub.cons (d := 49) hx140 (Sub.cons (d := 50) hx141 (Sub.nil _))))))))))))))))))))))))))) ?_
                  refine CW.region ?_
                  refine SeqR.d1 rfl rfl rfl (yl_move rfl rfl ?_)
                  refine SeqR.d1 rfl rfl rfl (yl_inc rfl rfl rfl (by omega) ?_)
                  refine SeqR.d1 rfl rfl rfl (yl_assign rfl rfl ?_)
                  refine SeqR.done ?_
                  refine tn ?_
                  have hB143 : B_s_l3Bytes_1 p_s p_more k5 k22 (x23) = .cont (true) := by simp only [B_s_l3Bytes_1, hb20, hb21, hb54, cond_true, cond_false, loopE_done, loopE_ret]
                  have q144 := Ex.trans hf51 hE116
                  exact ⟨p_more.length - (k22 + 1), by omega, k22 + 1, true, rfl, hlt53, rfl, rfl, rfl, rfl, rfl, rfl, rfl, rfl, rfl, rfl, rfl, rfl, rfl, rfl, rfl, rfl, rfl, rfl, rfl, q144, (loopM.cont hlt53 hB143).symm.trans hI31⟩
              · skip
                refine CW.drawsI 11 (vgetI [DetI (.bool (x23)), DetI (.bool (x23)), DetI (.string (bs (p_s))), DetI (.int .i64 ((k5 : Int))), DetI (.int .u8 (((p_s.getD k5 0).toNat : Int))), DetI (.string (bs (p_more))), DetI (.int .i64 ((k22 : Int))), DetI (.int .u8 (((p_more.getD k22 0).toNat : Int))), DetI (.bool (decide (((p_s.getD k5 0).toNat : Int) = ((p_more.getD k22 0).toNat : Int)))), DetI (.bool (decide (((p_s.getD k5 0).toNat : Int) = ((p_more.getD k22 0).toNat : Int)))), DetI (.bool (decide (((p_s.getD k5 0).toNat : Int) = ((p_more.getD k22 0).toNat : Int))))]) Try.follows rfl rfl rfl rfl rfl rfl (vgetI_stable ⟨StableI.det _, StableI.det _, StableI.det _, StableI.det _, StableI.det _, StableI.det _, StableI.det _, StableI.det _, StableI.det _, StableI.det _, StableI.det _, trivial⟩) ⟨?_, ?_, ?_, ?_, ?_, ?_, ?_, ?_, ?_, ?_, ?_, trivial⟩ ?_
                · intro L145 w146 hi147
                  have hE148 := hi147.ex
                  have hE148z := Ex.size hE148
                  have hx149 := hi147.old 6 _ rfl rfl
                  exact OpR.op' rfl (Yl.sameI (yl_move rfl hx149 ⟨fun _ _ => rfl, rfl⟩))
                · intro L150 w151 hi152
                  have hE153 := hi152.ex
                  have hE153z := Ex.size hE153
                  obtain ⟨_, _, _, hx154, -, -, -, rfl⟩ := hi152.dep 0 42 rfl rfl
                  exact OpR.op' rfl (Yl.sameI (yl_move rfl hx154 ⟨fun _ _ => rfl, rfl⟩))
                · intro L155 w156 hi157
                  have hE158 := hi157.ex
                  have hE158z := Ex.size hE158
                  obtain ⟨_, _, _, hx159, -, -, -, rfl⟩ := hi157.dep 1 43 rfl rfl
                  have hx160 := hi157.old 0 _ rfl rfl
                  exact OpR.want rfl rfl hx159 hb54 (Yl.sameI (yl_move rfl hx160 ⟨fun _ _ => rfl, rfl⟩))
                · intro L161 w162 hi163
                  have hE164 := hi163.ex
                  have hE164z := Ex.size hE164
                  obtain ⟨_, _, _, hx165, -, -, -, rfl⟩ := hi163.dep 1 43 rfl rfl
                  have hx166 := hi163.old 5 _ rfl rfl
                  exact OpR.want rfl rfl hx165 hb54 (Yl.sameI (yl_move rfl hx166 ⟨fun _ _ => rfl, rfl⟩))
                · intro L167 w168 hi169
                  have hE170 := hi169.ex
                  have hE170z := Ex.size hE170
                  obtain ⟨_, _, _, hx171, -, -, -, rfl⟩ := hi169.dep 1 43 rfl rfl
                  obtain ⟨_, _, _, hx172, -, -, -, rfl⟩ := hi169.dep 2 44 rfl rfl
                  obtain ⟨_, _, _, hx173, -, -, -, rfl⟩ := hi169.dep 3 45 rfl rfl
                  exact OpR.want rfl rfl hx171 hb54 (Yl.sameI (yl_sindexN Try.un9 (a := p_s) rfl hx172 hx173 (by first | omega | assumption | (simp only [IntKind.wrap_i64] at *; omega)) ⟨fun _ _ => rfl, rfl⟩))
                · intro L174 w175 hi176
                  have hE177 := hi176.ex
                  have hE177z := Ex.size hE177
                  obtain ⟨_, _, _, hx178, -, -, -, rfl⟩ := hi176.dep 1 43 rfl rfl
                  have hx179 := hi176.old 1 _ rfl rfl
                  exact OpR.want rfl rfl hx178 hb54 (Yl.sameI (yl_move rfl hx179 ⟨fun _ _ => rfl, rfl⟩))
                · intro L180 w181 hi182
                  have hE183 := hi182.ex
                  have hE183z := Ex.size hE183
                  obtain ⟨_, _, _, hx184, -, -, -, rfl⟩ := hi182.dep 1 43 rfl rfl
                  have hx185 := hi182.old 7 _ rfl rfl
                  exact OpR.want rfl rfl hx184 hb54 (Yl.sameI (yl_move rfl hx185 ⟨fun _ _ => rfl, rfl⟩))
                · intro L186 w187 hi188
                  have hE189 := hi188.ex
                  have hE189z := Ex.size hE189
                  obtain ⟨_, _, _, hx190, -, -, -, rfl⟩ := hi188.dep 1 43 rfl rfl
                  obtain ⟨_, _, _, hx191, -, -, -, rfl⟩ := hi188.dep 5 47 rfl rfl
                  obtain ⟨_, _, _, hx192, -, -, -, rfl⟩ := hi188.dep 6 48 rfl rfl
                  exact OpR.want rfl rfl hx190 hb54 (Yl.sameI (yl_sindexN Try.un9 (a := p_more) rfl hx191 hx192 (by first | omega | assumption | (simp only [IntKind.wrap_i64] at *; omega)) ⟨fun _ _ => rfl, rfl⟩))
                · intro L193 w194 hi195
                  have hE196 := hi195.ex
                  have hE196z := Ex.size hE196
                  obtain ⟨_, _, _, hx197, -, -, -, rfl⟩ := hi195.dep 1 43 rfl rfl
                  obtain ⟨_, _, _, hx198, -, -, -, rfl⟩ := hi195.dep 4 46 rfl rfl
                  obtain ⟨_, _, _, hx199, -, -, -, rfl⟩ := hi195.dep 7 49 rfl rfl
                  exact OpR.want rfl rfl hx197 hb54 (Yl.sameI (yl_eql rfl hx198 hx199 ⟨fun _ _ => rfl, rfl⟩))
                · intro L200 w201 hi202
                  have hE203 := hi202.ex
                  have hE203z := Ex.size hE203
                  obtain ⟨_, _, _, hx204, -, -, -, rfl⟩ := hi202.dep 8 50 rfl rfl
                  obtain ⟨_, _, _, hx205, -, -, -, rfl⟩ := hi202.dep 1 43 rfl rfl
                  exact OpR.op' rfl (Yl.sameI (yl_pick_f rfl hx205 hb54 hx204 ⟨fun _ _ => rfl, rfl⟩))
                · intro L206 w207 hi208
                  have hE209 := hi208.ex
                  have hE209z := Ex.size hE209
                  obtain ⟨_, _, _, hx210, -, -, -, rfl⟩ := hi208.dep 9 51 rfl rfl
                  exact OpR.op' rfl (Yl.sameI (yl_assign rfl hx210 ⟨fun _ _ => rfl, rfl⟩))
                · intro fl214 fh215 L211 w212 hp213
                  have hE216 := hp213.ex
                  have hE216z := Ex.size hE216
                  have hx217 := hp213.old 0 _ rfl rfl
                  have hx218 := hp213.old 1 _ rfl rfl
                  have hx219 := hp213.old 5 _ rfl rfl
                  have hx220 := hp213.old 7 _ rfl rfl
                  have hx221 := hp213.old 19 _ rfl rfl
                  have hx222 := hp213.old 20 _ rfl rfl
                  have hx223 := hp213.old 21 _ rfl rfl
                  have hx224 := hp213.old 22 _ rfl rfl
                  have hx225 := hp213.old 25 _ rfl rfl
                  have hx226 := hp213.old 26 _ rfl rfl
                  have hx227 := hp213.old 27 _ rfl rfl
                  have hx228 := hp213.old 28 _ rfl rfl
                  have hx229 := hp213.old 29 _ rfl rfl
                  have hx230 := hp213.old 30 _ rfl rfl
                  have hx231 := hp213.old 31 _ rfl rfl
                  have hx232 := hp213.old 32 _ rfl rfl
                  have hx233 := hp213.old 33 _ rfl rfl
                  have hx234 := hp213.old 34 _ rfl rfl
                  obtain ⟨_, hx235, rfl⟩ := hp213.new 2 44 rfl rfl
                  obtain ⟨_, hx236, rfl⟩ := hp213.new 3 45 rfl rfl
                  obtain ⟨_, hx237, rfl⟩ := hp213.new 4 46 rfl rfl
                  obtain ⟨_, hx238, rfl⟩ := hp213.new 5 47 rfl rfl
                  obtain ⟨_, hx239, rfl⟩ := hp213.new 6 48 rfl rfl
                  obtain ⟨_, hx240, rfl⟩ := hp213.new 7 49 rfl rfl
                  obtain ⟨_, hx241, rfl⟩ := hp213.new 8 50 rfl rfl
                  obtain ⟨_, hx242, rfl⟩ := hp213.new 10 6 rfl rfl
                  refine SeqR.done ?_
                  refine bn ?_
                  refine tn ?_
                  refine CW.sub (Sub.cons (d := 0) hx217 (Sub.cons (d := 1) hx218 (Sub.cons (d := 5) hx219 (Sub.cons (d := 6) hx242 (Sub.cons (d := 7) hx220 (Sub.cons (d := 19) hx221 (Sub.cons (d := 20) hx222 (Sub.cons (d := 21) hx223 (Sub.cons (d := 22) hx224 (Sub.cons (d := 25) hx225 (Sub.cons (d := 26) hx226 (Sub.cons (d := 27) hx227 (Sub.cons (d := 28) hx228 (Sub.cons (d := 29) hx229 (Sub.cons (d := 30) hx230 (Sub.cons (d := 31) hx231 (Sub.cons (d := 32) hx232 (Sub.cons (d := 33) hx233 (Sub.cons (d := 34) hx234 (Sub.cons (d := 44) hx235 (Sub.cons (d := 45) hx236 (Sub.cons (d := 46) hx237 (Sub.cons (d := 47) hx238 (Sub.cons (d := 48) hx239 (Sub.cons (d := 49) hx240 (Sub.cons (d := 50) hx241 (Sub.nil _))))))))))))))))))))))))))) ?_
                  refine CW.region ?_
                  refine SeqR.d1 rfl rfl rfl (yl_move rfl rfl ?_)
                  refine SeqR.d1 rfl rfl rfl (yl_inc rfl rfl rfl (by omega) ?_)
                  refine SeqR.d1 rfl rfl rfl (yl_assign rfl rfl ?_)
                  refine SeqR.done ?_
                  refine tn ?_
                  have hB243 : B_s_l3Bytes_1 p_s p_more k5 k22 (x23) = .cont (decide (((p_s.getD k5 0).toNat : Int) = ((p_more.getD k22 0).toNat : Int))) := by simp only [B_s_l3Bytes_1, hb20, hb21, hb54, cond_true, cond_false, loopE_done, loopE_ret]
                  have q244 := Ex.trans hf51 hE216
                  exact ⟨p_more.length - (k22 + 1), by omega, k22 + 1, decide (((p_s.getD k5 0).toNat : Int) = ((p_more.getD k22 0).toNat : Int)), rfl, hlt53, rfl, rfl, rfl, rfl, rfl, rfl, rfl, rfl, rfl, rfl, rfl, rfl, rfl, rfl, rfl, rfl, rfl, rfl, rfl, q244, (loopM.cont hlt53 hB243).symm.trans hI31⟩
            · skip
              refine CW.seq ?_
              refine CW.seq ?_
              refine CW.region ?_
              refine SeqR.d1 rfl rfl rfl (yl_move rfl rfl ?_)
              refine SeqR.d1 rfl rfl rfl (yl_move rfl rfl ?_)
              refine SeqR.d1 rfl rfl rfl (yl_slen Try.un9 (a := p_more) rfl rfl ?_)
              refine SeqR.d1 rfl rfl rfl (yl_lss rfl rfl rfl ?_)
              refine SeqR.done ?_
              refine tn ?_
              refine CW.cond_f rfl (lt_f hlt53) ?_
              refine CW.exit ?_
              refine tx ?_
              refine tx ?_
              have hL245 : loopM (B_s_l3Bytes_1 p_s p_more k5) (p_more.length - 0) 0 (true) = .done (x23) := hI31.symm.trans (loopM.stop hlt53)
              refine bx ?_
              refine tn ?_
              refine CW.seq ?_
              refine CW.region ?_
              refine SeqR.d1 rfl rfl rfl (yl_move rfl rfl ?_)
              refine SeqR.d1 rfl rfl rfl (yl_not rfl rfl ?_)
              refine SeqR.done ?_
              refine tn ?_
              refine bcase (x23) (fun hb246 => ?_) (fun hb246 => ?_)
              · skip
                refine CW.cond_f rfl (not_t hb246) ?_
                refine CW.skip ?_
                refine bn ?_
                refine tn ?_
                refine CW.region ?_
                refine SeqR.d1 rfl rfl rfl (yl_move rfl rfl ?_)
                refine SeqR.d1 rfl rfl rfl (yl_inc rfl rfl rfl (by omega) ?_)
                refine SeqR.d1 rfl rfl rfl (yl_assign rfl rfl ?_)
                refine SeqR.done ?_
                refine tn ?_
                have hB247 : B_s_l3Bytes_0 p_s p_more k5 () = .cont () := by simp only [B_s_l3Bytes_0, hb20, hb21, hb246, hL245, cond_true, cond_false, loopE_done, loopE_ret]
                exact ⟨p_s.length - (k5 + 1), by omega, k5 + 1, rfl, hlt19, rfl, rfl, rfl, hf51, (loopM.cont hlt19 hB247).symm.trans hI13⟩
              · skip
                refine CW.cond_t rfl (not_f hb246) ?_
                refine CW.seq ?_
                refine CW.region ?_
                refine SeqR.d1 rfl rfl rfl (yl_assign rfl rfl ?_)
                refine SeqR.done ?_
                refine tn ?_
                refine CW.ret ?_
                refine br ?_
                refine tr ?_
                refine tr ?_
                have hB249 : B_s_l3Bytes_0 p_s p_more k5 () = .ret false := by simp only [B_s_l3Bytes_0, hb20, hb21, hb246, hL245, cond_true, cond_false, loopE_done, loopE_ret]
                have hL248 : loopM (B_s_l3Bytes_0 p_s p_more) (p_s.length - 0) 0 () = .ret false := hI13.symm.trans (loopM.ret hlt19 hB249)
                refine br ?_
                refine tr ?_
                refine rr rfl (.cons rfl .nil) ?_
                have hM250 : (s_l3Bytes p_s p_more) = (false) := by simp only [s_l3Bytes, hb20, hb21, hb246, hL245, hL248, cond_true, cond_false, loopE_done, loopE_ret]
                rw [hM250]
                exact ⟨rfl, hf51⟩
        · have hb21p := dec_f hb21
          refine SeqR.y rfl rfl rfl rfl rfl hb21 (yl_move rfl rfl ?_)
          refine SeqR.y rfl rfl rfl rfl rfl hb21 (yl_move rfl rfl ?_)
          refine SeqR.y rfl rfl rfl rfl rfl hb21 (yl_sindexN Try.un9 (a := p_s) rfl rfl rfl (by first | omega | assumption | (simp only [IntKind.wrap_i64] at *; omega)) ?_)
          refine SeqR.y rfl rfl rfl rfl rfl hb21 (yl_geq rfl rfl rfl ?_)
          refine SeqR.y rfl rfl rfl rfl rfl hb21 (yl_move rfl rfl ?_)
          refine bcase (decide (48 ≤ ((p_s.getD k5 0).toNat : Int))) (fun hb251 => ?_) (fun hb251 => ?_)
          · have hb251p := dec_t hb251
            refine SeqR.y rfl rfl rfl rfl rfl hb251 (yl_move rfl rfl ?_)
            refine SeqR.y rfl rfl rfl rfl rfl hb251 (yl_move rfl rfl ?_)
            refine SeqR.y rfl rfl rfl rfl rfl hb251 (yl_sindexN Try.un9 (a := p_s) rfl rfl rfl (by first | omega | assumption | (simp only [IntKind.wrap_i64] at *; omega)) ?_)
            refine SeqR.y rfl rfl rfl rfl rfl hb251 (yl_leq rfl rfl rfl ?_)
            refine SeqR.y rfl rfl rfl rfl rfl hb21 (yl_pick_t rfl rfl hb251 rfl ?_)
            refine SeqR.d1 rfl rfl rfl (yl_pick_f rfl rfl hb21 rfl ?_)
            refine SeqR.d1 rfl rfl rfl (yl_assign rfl rfl ?_)
            refine SeqR.done ?_
            refine tn ?_
            refine CW.seq ?_
            refine CW.seq ?_
            refine CW.region ?_
            refine SeqR.d1 rfl rfl rfl (yl_assign rfl rfl ?_)
            refine SeqR.done ?_
            refine tn ?_
            refine CW.block ?_
            refine CW.loop (fun m254 L255 w256 => ∃ (k252 : Nat) (x253 : Bool), m254 = p_more.length - k252 ∧ k252 ≤ p_more.length ∧ lkp L255 0 = some (.string (bs (p_s))) ∧ lkp L255 1 = some (.string (bs (p_more))) ∧ lkp L255 5 = some (.int .i64 ((k5 : Int))) ∧ lkp L255 6 = some (.bool (x253)) ∧ lkp L255 7 = some (.int .i64 ((k252 : Int))) ∧ lkp L255 19 = some (.string (bs (p_s))) ∧ lkp L255 20 = some (.int .i64 ((k5 : Int))) ∧ lkp L255 21 = some (.int .u8 (((p_s.getD k5 0).toNat : Int))) ∧ lkp L255 22 = some (.bool (decide (((p_s.getD k5 0).toNat : Int) ≤ 122))) ∧ lkp L255 25 = some (.string (bs (p_s))) ∧ lkp L255 26 = some (.int .i64 ((k5 : Int))) ∧ lkp L255 27 = some (.int .u8 (((p_s.getD k5 0).toNat : Int))) ∧ lkp L255 28 = some (.bool (decide (48 ≤ ((p_s.getD k5 0).toNat : Int)))) ∧ lkp L255 29 = some (.bool (decide (48 ≤ ((p_s.getD k5 0).toNat : Int)))) ∧ lkp L255 30 = some (.string (bs (p_s))) ∧ lkp L255 31 = some (.int .i64 ((k5 : Int))) ∧ lkp L255 32 = some (.int .u8 (((p_s.getD k5 0).toNat : Int))) ∧ lkp L255 33 = some (.bool (decide (((p_s.getD k5 0).toNat : Int) ≤ 57))) ∧ lkp L255 34 = some (.bool (decide (((p_s.getD k5 0).toNat : Int) ≤ 57))) ∧ Ex w w256 ∧ loopM (B_s_l3Bytes_1 p_s p_more k5) (p_more.length - k252) k252 (x253) = loopM (B_s_l3Bytes_1 p_s p_more k5) (p_more.length - 0) 0 (decide (((p_s.getD k5 0).toNat : Int) ≤ 57))) (p_more.length - 0) ?_ ?_
            · exact ⟨0, decide (((p_s.getD k5 0).toNat : Int) ≤ 57), rfl, Nat.zero_le _, rfl, rfl, rfl, rfl, rfl, rfl, rfl, rfl, rfl, rfl, rfl, rfl, rfl, rfl, rfl, rfl, rfl, rfl, rfl, hf17, rfl⟩
            · rintro m257 L258 w259 ⟨k252, x253, rfl, hk260, hl262, hl263, hl264, hl265, hl266, hl267, hl268, hl269, hl270, hl271, hl272, hl273, hl274, hl275, hl276, hl277, hl278, hl279, hl280, hf281, hI261⟩
              refine CW.sub (Sub.cons hl262 (Sub.cons hl263 (Sub.cons hl264 (Sub.cons hl265 (Sub.cons hl266 (Sub.cons hl267 (Sub.cons hl268 (Sub.cons hl269 (Sub.cons hl270 (Sub.cons hl271 (Sub.cons hl272 (Sub.cons hl273 (Sub.cons hl274 (Sub.cons hl275 (Sub.cons hl276 (Sub.cons hl277 (Sub.cons hl278 (Sub.cons hl279 (Sub.cons hl280 (Sub.nil _)))))))))))))))))))) ?_
              have hf281z := Ex.size hf281
              have hbg282 : p_more.length ≤ 1073741824 := o2
              rcases Nat.lt_or_ge k252 p_more.length with hlt283 | hlt283
              · skip
                refine CW.seq ?_
                refine CW.seq ?_
                refine CW.region ?_
                refine SeqR.d1 rfl rfl rfl (yl_move rfl rfl ?_)
                refine SeqR.d1 rfl rfl rfl (yl_move rfl rfl ?_)
                refine SeqR.d1 rfl rfl rfl (yl_slen Try.un9 (a := p_more) rfl rfl ?_)
                refine SeqR.d1 rfl rfl rfl (yl_lss rfl rfl rfl ?_)
                refine SeqR.done ?_
                refine tn ?_
                refine CW.cond_t rfl (lt_t hlt283) ?_
                refine CW.skip ?_
                refine tn ?_
                refine CW.seq ?_
                refine CW.block ?_
                refine bcase (x253) (fun hb284 => ?_) (fun hb284 => ?_)
                · skip
                  refine CW.drawsI 11 (vgetI [DetI (.bool (x253)), DetI (.bool (x253)), DetI (undef), DetI (undef), DetI (undef), DetI (undef), DetI (undef), DetI (undef), DetI (undef), DetI (.bool (true)), DetI (.bool (true))]) Try.follows rfl rfl rfl rfl rfl rfl (vgetI_stable ⟨StableI.det _, StableI.det _, StableI.det _, StableI.det _, StableI.det _, StableI.det _, StableI.det _, StableI.det _, StableI.det _, StableI.det _, StableI.det _, trivial⟩) ⟨?_, ?_, ?_, ?_, ?_, ?_, ?_, ?_, ?_, ?_, ?_, trivial⟩ ?_
                  · intro L285 w286 hi287
                    have hE288 := hi287.ex
                    have hE288z := Ex.size hE288
                    have hx289 := hi287.old 6 _ rfl rfl
                    exact OpR.op' rfl (Yl.sameI (yl_move rfl hx289 ⟨fun _ _ => rfl, rfl⟩))
                  · intro L290 w291 hi292
                    have hE293 := hi292.ex
                    have hE293z := Ex.size hE293
                    obtain ⟨_, _, _, hx294, -, -, -, rfl⟩ := hi292.dep 0 42 rfl rfl
                    exact OpR.op' rfl (Yl.sameI (yl_move rfl hx294 ⟨fun _ _ => rfl, rfl⟩))
                  · intro L295 w296 hi297
                    have hE298 := hi297.ex
                    have hE298z := Ex.size hE298
                    obtain ⟨_, _, _, hx299, -, -, -, rfl⟩ := hi297.dep 1 43 rfl rfl
                    exact OpR.skip rfl rfl hx299 hb284 ⟨rfl, Ex.refl _⟩
                  · intro L300 w301 hi302
                    have hE303 := hi302.ex
                    have hE303z := Ex.size hE303
                    obtain ⟨_, _, _, hx304, -, -, -, rfl⟩ := hi302.dep 1 43 rfl rfl
                    exact OpR.skip rfl rfl hx304 hb284 ⟨rfl, Ex.refl _⟩
                  · intro L305 w306 hi307
                    have hE308 := hi307.ex
                    have hE308z := Ex.size hE308
                    obtain ⟨_, _, _, hx309, -, -, -, rfl⟩ := hi307.dep 1 43 rfl rfl
                    exact OpR.skip rfl rfl hx309 hb284 ⟨rfl, Ex.refl _⟩
                  · intro L310 w311 hi312
                    have hE313 := hi312.ex
                    have hE313z := Ex.size hE313
                    obtain ⟨_, _, _, hx314, -, -, -, rfl⟩ := hi312.dep 1 43 rfl rfl
                    exact OpR.skip rfl rfl hx314 hb284 ⟨rfl, Ex.refl _⟩
                  · intro L315 w316 hi317
                    have hE318 := hi317.ex
                    have hE318z := Ex.size hE318
                    obtain ⟨_, _, _, hx319, -, -, -, rfl⟩ := hi317.dep 1 43 rfl rfl
                    exact OpR.skip rfl rfl hx319 hb284 ⟨rfl, Ex.refl _⟩
                  · intro L320 w321 hi322
                    have hE323 := hi322.ex
                    have hE323z := Ex.size hE323
                    obtain ⟨_, _, _, hx324, -, -, -, rfl⟩ := hi322.dep 1 43 rfl rfl
                    exact OpR.skip rfl rfl hx324 hb284 ⟨rfl, Ex.refl _⟩
                  · intro L325 w326 hi327
                    have hE328 := hi327.ex
                    have hE328z := Ex.size hE328
                    obtain ⟨_, _, _, hx329, -, -, -, rfl⟩ := hi327.dep 1 43 rfl rfl
                    exact OpR.skip rfl rfl hx329 hb284 ⟨rfl, Ex.refl _⟩
                  · intro L330 w331 hi332
                    have hE333 := hi332.ex
                    have hE333z := Ex.size hE333
                    obtain ⟨_, _, _, hx334, -, -, -, rfl⟩ := hi332.dep 8 50 rfl rfl
                    obtain ⟨_, _, _, hx335, -, -, -, rfl⟩ := hi332.dep 1 43 rfl rfl
                    exact OpR.op' rfl (Yl.sameI (yl_pick_t rfl hx335 hb284 rfl ⟨fun _ _ => rfl, rfl⟩))
                  · intro L336 w337 hi338
                    have hE339 := hi338.ex
                    have hE339z := Ex.size hE339
                    obtain ⟨_, _, _, hx340, -, -, -, rfl⟩ := hi338.dep 9 51 rfl rfl
                    exact OpR.op' rfl (Yl.sameI (yl_assign rfl hx340 ⟨fun _ _ => rfl, rfl⟩))
                  · intro fl344 fh345 L341 w342 hp343
                    have hE346 := hp343.ex
                    have hE346z := Ex.size hE346
                    have hx347 := hp343.old 0 _ rfl rfl
                    have hx348 := hp343.old 1 _ rfl rfl
                    have hx349 := hp343.old 5 _ rfl rfl
                    have hx350 := hp343.old 7 _ rfl rfl
                    have hx351 := hp343.old 19 _ rfl rfl
                    have hx352 := hp343.old 20 _ rfl rfl
                    have hx353 := hp343.old 21 _ rfl rfl
                    have hx354 := hp343.old 22 _ rfl rfl
                    have hx355 := hp343.old 25 _ rfl rfl
                    have hx356 := hp343.old 26 _ rfl rfl
                    have hx357 := hp343.old 27 _ rfl rfl
                    have hx358 := hp343.old 28 _ rfl rfl
                    have hx359 := hp343.old 29 _ rfl rfl
                    have hx360 := hp343.old 30 _ rfl rfl
                    have hx361 := hp343.old 31 _ rfl rfl
                    have hx362 := hp343.old 32 _ rfl rfl
                    have hx363 := hp343.old 33 _ rfl rfl
                    have hx364 := hp343.old 34 _ rfl rfl
                    obtain ⟨_, hx365, rfl⟩ := hp343.new 2 44 rfl rfl
                    obtain ⟨_, hx366, rfl⟩ := hp343.new 3 45 rfl rfl
                    obtain ⟨_, hx367, rfl⟩ := hp343.new 4 46 rfl rfl
                    obtain ⟨_, hx368, rfl⟩ := hp343.new 5 47 rfl rfl
                    obtain ⟨_, hx369, rfl⟩ := hp343.new 6 48 rfl rfl
                    obtain ⟨_, hx370, rfl⟩ := hp343.new 7 49 rfl rfl
                    obtain ⟨_, hx371, rfl⟩ := hp343.new 8 50 rfl rfl
                    obtain ⟨_, hx372, rfl⟩ := hp343.new 10 6 rfl rfl
                    refine SeqR.done ?_
                    refine bn ?_
                    refine tn ?_
                    refine CW.sub (Sub.cons (d := 0) hx347 (Sub.cons (d := 1) hx348 (Sub.cons (d := 5) hx349 (Sub.cons (d := 6) hx372 (Sub.cons (d := 7) hx350 (Sub.cons (d := 19) hx351 (Sub.cons (d := 20) hx352 (Sub.cons (d := 21) hx353 (Sub.cons (d := 22) hx354 (Sub.cons (d := 25) hx355 (Sub.cons (d := 26) hx356 (Sub.cons (d := 27) hx357 (Sub.cons (d := 28) hx358 (Sub.cons (d := 29) hx359 (Sub.cons (d := 30) hx360 (Sub.cons (d := 31) hx361 (Sub.cons (d := 32) hx362 (Sub.cons (d := 33) hx363 (Sub.cons (d := 34) hx364 (Sub.cons (d := 44) hx365 (Sub.cons (d := 45) hx366 (Sub.cons (d := 46) hx367 (Sub.cons (d := 47) hx368 (Sub.cons (d := 48) hx369 (Sub.cons (d := 49) hx370 (Sub.cons (d := 50) hx371 (Sub.nil _))))))))))))))))))))))))))) ?_
                    refine CW.region ?_
                    refine SeqR.d1 rfl rfl rfl (yl_move rfl rfl ?_)
                    refine SeqR.d1 rfl rfl rfl (yl_inc rfl rfl rfl (by omega) ?_)
                    refine SeqR.d1 rfl rfl rfl (yl_assign rfl rfl ?_)
                    refine SeqR.done ?_
                    refine tn ?_
                    have hB373 : B_s_l3Bytes_1 p_s p_more k5 k252 (x253) = .cont (true) := by simp only [B_s_l3Bytes_1, hb20, hb21, hb251, hb284, cond_true, cond_false, loopE_done, loopE_ret]
                    have q374 := Ex.trans hf281 hE346
                    exact ⟨p_more.length - (k252 + 1), by omega, k252 + 1, true, rfl, hlt283, rfl, rfl, rfl, rfl, rfl, rfl, rfl, rfl, rfl, rfl, rfl, rfl, rfl, rfl, rfl, rfl, rfl, rfl, rfl, q374, (loopM.cont hlt283 hB373).symm.trans hI261⟩
                · skip
                  refine CW.drawsI 11 (vgetI [DetI (.bool (x253)), DetI (.bool (x253)), DetI (.string (bs (p_s))), DetI (.int .i64 ((k5 : Int))), DetI (.int .u8 (((p_s.getD k5 0).toNat : Int))), DetI (.string (bs (p_more))), DetI (.int .i64 ((k252 : Int))), DetI (.int .u8 (((p_more.getD k252 0).toNat : Int))), DetI (.bool (decide (((p_s.getD k5 0).toNat : Int) = ((p_more.getD k252 0).toNat : Int)))), DetI (.bool (decide (((p_s.getD k5 0).toNat : Int) = ((p_more.getD k252 0).toNat : Int)))), DetI (.bool (decide (((p_s.getD k5 0).toNat : Int) = ((p_more.getD k252 0).toNat : Int))))]) Try.follows rfl rfl rfl rfl rfl rfl (vgetI_stable ⟨StableI.det _, StableI.det _, StableI.det _, StableI.det _, StableI.det _, StableI.det _, StableI.det _, StableI.det _, StableI.det _, StableI.det _, StableI.det _, trivial⟩) ⟨?_, ?_, ?_, ?_, ?_, ?_, ?_, ?_, ?_, ?_, ?_, trivial⟩ ?_
                  · intro L375 w376 hi377
                    have hE378 := hi377.ex
                    have hE378z := Ex.size hE378
                    have hx379 := hi377.old 6 _ rfl rfl
                    exact OpR.op' rfl (Yl.sameI (yl_move rfl hx379 ⟨fun _ _ => rfl, rfl⟩))
                  · intro L380 w381 hi382
                    have hE383 := hi382.ex
                    have hE383z := Ex.size hE383
                    obtain ⟨_, _, _, hx384, -, -, -, rfl⟩ := hi382.dep 0 42 rfl rfl
                    exact OpR.op' rfl (Yl.sameI (yl_move rfl hx384 ⟨fun _ _ => rfl, rfl⟩))
                  · intro L385 w386 hi387
                    have hE388 := hi387.ex
                    have hE388z := Ex.size hE388
                    obtain ⟨_, _, _, hx389, -, -, -, rfl⟩ := hi387.dep 1 43 rfl rfl
                    have hx390 := hi387.old 0 _ rfl rfl
                    exact OpR.want rfl rfl hx389 hb284 (Yl.sameI (yl_move rfl hx390 ⟨fun _ _ => rfl, rfl⟩))
                  · intro L391 w392 hi393
                    have hE394 := hi393.ex
                    have hE394z := Ex.size hE394
                    obtain ⟨_, _, _, hx395, -, -, -, rfl⟩ := hi393.dep 1 43 rfl rfl
                    have hx396 := hi393.old 5 _ rfl rfl
                    exact OpR.want rfl rfl hx395 hb284 (Yl.sameI (yl_move rfl hx396 ⟨fun _ _ => rfl, rfl⟩))
                  · intro L397 w398 hi399
                    have hE400 := hi399.ex
                    have hE400z := Ex.size hE400
                    obtain ⟨_, _, _, hx401, -, -, -, rfl⟩ := hi399.dep 1 43 rfl rfl
                    obtain ⟨_, _, _, hx402, -, -, -, rfl⟩ := hi399.dep 2 44 rfl rfl
                    obtain ⟨_, _, _, hx403, -, -, -, rfl⟩ := hi399.dep 3 45 rfl rfl
                    exact OpR.want rfl rfl hx401 hb284 (Yl.sameI (yl_sindexN Try.un9 (a := p_s) rfl hx402 hx403 (by first | omega | assumption | (simp only [IntKind.wrap_i64] at *; omega)) ⟨fun _ _ => rfl, rfl⟩))
                  · intro L404 w405 hi406
                    have hE407 := hi406.ex
                    have hE407z := Ex.size hE407
                    obtain ⟨_, _, _, hx408, -, -, -, rfl⟩ := hi406.dep 1 43 rfl rfl
                    have hx409 := hi406.old 1 _ rfl rfl
                    exact OpR.want rfl rfl hx408 hb284 (Yl.sameI (yl_move rfl hx409 ⟨fun _ _ => rfl, rfl⟩))
                  · intro L410 w411 hi412
                    have hE413 := hi412.ex
                    have hE413z := Ex.size hE413
                    obtain ⟨_, _, _, hx414, -, -, -, rfl⟩ := hi412.dep 1 43 rfl rfl
                    have hx415 := hi412.old 7 _ rfl rfl
                    exact OpR.want rfl rfl hx414 hb284 (Yl.sameI (yl_move rfl hx415 ⟨fun _ _ => rfl, rfl⟩))
                  · intro L416 w417 hi418
                    have hE419 := hi418.ex
                    have hE419z := Ex.size hE419
                    obtain ⟨_, _, _, hx420, -, -, -, rfl⟩ := hi418.dep 1 43 rfl rfl
                    obtain ⟨_, _, _, hx421, -, -, -, rfl⟩ := hi418.dep 5 47 rfl rfl
                    obtain ⟨_, _, _, hx422, -, -, -, rfl⟩ := hi418.dep 6 48 rfl rfl
                    exact OpR.want rfl rfl hx420 hb284 (Yl.sameI (yl_sindexN Try.un9 (a := p_more) rfl hx421 hx422 (by first | omega | assumption | (simp only [IntKind.wrap_i64] at *; omega)) ⟨fun _ _ => rfl, rfl⟩))
                  · intro L423 w424 hi425
                    have hE426 := hi425.ex
                    have hE426z := Ex.size hE426
                    obtain ⟨_, _, _, hx427, -, -, -, rfl⟩ := hi425.dep 1 43 rfl rfl
                    obtain ⟨_, _, _, hx428, -, -, -, rfl⟩ := hi425.dep 4 46 rfl rfl
                    obtain ⟨_, _, _, hx429, -, -, -, rfl⟩ := hi425.dep 7 49 rfl rfl
                    exact OpR.want rfl rfl hx427 hb284 (Yl.sameI (yl_eql rfl hx428 hx429 ⟨fun _ _ => rfl, rfl⟩))
                  · intro L430 w431 hi432
                    have hE433 := hi432.ex
                    have hE433z := Ex.size hE433
                    obtain ⟨_, _, _, hx434, -, -, -, rfl⟩ := hi432.dep 8 50 rfl rfl
                    obtain ⟨_, _, _, hx435, -, -, -, rfl⟩ := hi432.dep 1 43 rfl rfl
                    exact OpR.op' rfl (Yl.sameI (yl_pick_f rfl hx435 hb284 hx434 ⟨fun _ _ => rfl, rfl⟩))
                  · intro L436 w437 hi438
                    have hE439 := hi438.ex
                    have hE439z := Ex.size hE439
                    obtain ⟨_, _, _, hx440, -, -, -, rfl⟩ := hi438.dep 9 51 rfl rfl
                    exact OpR.op' rfl (Yl.sameI (yl_assign rfl hx440 ⟨fun _ _ => rfl, rfl⟩))
                  · intro fl444 fh445 L441 w442 hp443
                    have hE446 := hp443.ex
                    have hE446z := Ex.size hE446
                    have hx447 := hp443.old 0 _ rfl rfl
                    have hx448 := hp443.old 1 _ rfl rfl
                    have hx449 := hp443.old 5 _ rfl rfl
                    have hx450 := hp443.old 7 _ rfl rfl
                    have hx451 := hp443.old 19 _ rfl rfl
                    have hx452 := hp443.old 20 _ rfl rfl
                    have hx453 := hp443.old 21 _ rfl rfl
                    have hx454 := hp443.old 22 _ rfl rfl
                    have hx455 := hp443.old 25 _ rfl rfl
                    have hx456 := hp443.old 26 _ rfl rfl
                    have hx457 := hp443.old 27 _ rfl rfl
                    have hx458 := hp443.old 28 _ rfl rfl
                    have hx459 := hp443.old 29 _ rfl rfl
                    have hx460 := hp443.old 30 _ rfl rfl
                    have hx461 := hp443.old 31 _ rfl rfl
                    have hx462 := hp443.old 32 _ rfl rfl
                    have hx463 := hp443.old 33 _ rfl rfl
                    have hx464 := hp443.old 34 _ rfl rfl
                    obtain ⟨_, hx465, rfl⟩ := hp443.new 2 44 rfl rfl
                    obtain ⟨_, hx466, rfl⟩ := hp443.new 3 45 rfl rfl
                    obtain ⟨_, hx467, rfl⟩ := hp443.new 4 46 rfl rfl
                    obtain ⟨_, hx468, rfl⟩ := hp443.new 5 47 rfl rfl
                    obtain ⟨_, hx469, rfl⟩ := hp443.new 6 48 rfl rfl
                    obtain ⟨_, hx470, rfl⟩ := hp443.new 7 49 rfl rfl
                    obtain ⟨_, hx471, rfl⟩ := hp443.new 8 50 rfl rfl
                    obtain ⟨_, hx472, rfl⟩ := hp443.new 10 6 rfl rfl
                    refine SeqR.done ?_
                    refine bn ?_
                    refine tn ?_
                    refine CW.sub (Sub.cons (d := 0) hx447 (Sub.cons (d := 1) hx448 (Sub.cons (d := 5) hx449 (Sub.cons (d := 6) hx472 (Sub.cons (d := 7) hx450 (Sub.cons (d := 19) hx451 (Sub.cons (d := 20) hx452 (Sub.cons (d := 21) hx453 (Sub.cons (d := 22) hx454 (Sub.cons (d := 25) hx455 (Sub.cons (d := 26) hx456 (Sub.cons (d := 27) hx457 (Sub.cons (d := 28) hx458 (Sub.cons (d := 29) hx459 (Sub.cons (d := 30) hx460 (Sub.cons (d := 31) hx461 (Sub.cons (d := 32) hx462 (Sub.cons (d := 33) hx463 (Sub.cons (d := 34) hx464 (Sub.cons (d := 44) hx465 (Sub.cons (d := 45) hx466 (Sub.cons (d := 46) hx467 (Sub.cons (d := 47) hx468 (Sub.cons (d := 48) hx469 (Sub.cons (d := 49) hx470 (Sub.cons (d := 50) hx471 (Sub.nil _))))))))))))))))))))))))))) ?_
                    refine CW.region ?_
                    refine SeqR.d1 rfl rfl rfl (yl_move rfl rfl ?_)
                    refine SeqR.d1 rfl rfl rfl (yl_inc rfl rfl rfl (by omega) ?_)
                    refine SeqR.d1 rfl rfl rfl (yl_assign rfl rfl ?_)
                    refine SeqR.done ?_
                    refine tn ?_
                    have hB473 : B_s_l3Bytes_1 p_s p_more k5 k252 (x253) = .cont (decide (((p_s.getD k5 0).toNat : Int) = ((p_more.getD k252 0).toNat : Int))) := by simp only [B_s_l3Bytes_1, hb20, hb21, hb251, hb284, cond_true, cond_false, loopE_done, loopE_ret]
                    have q474 := Ex.trans hf281 hE446
                    exact ⟨p_more.length - (k252 + 1), by omega, k252 + 1, decide (((p_s.getD k5 0).toNat : Int) = ((p_more.getD k252 0).toNat : Int)), rfl, hlt283, rfl, rfl, rfl, rfl, rfl, rfl, rfl, rfl, rfl, rfl, rfl, rfl, rfl, rfl, rfl, rfl, rfl, rfl, rfl, q474, (loopM.cont hlt283 hB473).symm.trans hI261⟩
              · skip
                refine CW.seq ?_
                refine CW.seq ?_
                refine CW.region ?_
                refine SeqR.d1 rfl rfl rfl (yl_move rfl rfl ?_)
                refine SeqR.d1 rfl rfl rfl (yl_move rfl rfl ?_)
                refine SeqR.d1 rfl rfl rfl (yl_slen Try.un9 (a := p_more) rfl rfl ?_)
                refine SeqR.d1 rfl rfl rfl (yl_lss rfl rfl rfl ?_)
                refine SeqR.done ?_
                refine tn ?_
                refine CW.cond_f rfl (lt_f hlt283) ?_
                refine CW.exit ?_
                refine tx ?_
                refine tx ?_
                have hL475 : loopM (B_s_l3Bytes_1 p_s p_more k5) (p_more.length - 0) 0 (decide (((p_s.getD k5 0).toNat : Int) ≤ 57)) = .done (x253) := hI261.symm.trans (loopM.stop hlt283)
                refine bx ?_
                refine tn ?_
                refine CW.seq ?_
                refine CW.region ?_
                refine SeqR.d1 rfl rfl rfl (yl_move rfl rfl ?_)
                refine SeqR.d1 rfl rfl rfl (yl_not rfl rfl ?_)
                refine SeqR.done ?_
                refine tn ?_
                refine bcase (x253) (fun hb476 => ?_) (fun hb476 => ?_)
                · skip
                  refine CW.cond_f rfl (not_t hb476) ?_
                  refine CW.skip ?_
                  refine bn ?_
                  refine tn ?_
                  refine CW.region ?_
                  refine SeqR.d1 rfl rfl rfl (yl_move rfl rfl ?_)
                  refine SeqR.d1 rfl rfl rfl (yl_inc rfl rfl rfl (by omega) ?_)
                  refine SeqR.d1 rfl rfl rfl (yl_assign rfl rfl ?_)
                  refine SeqR.done ?_
                  refine tn ?_
                  have hB477 : B_s_l3Bytes_0 p_s p_more k5 () = .cont () := by simp only [B_s_l3Bytes_0, hb20, hb21, hb251, hb476, hL475, cond_true, cond_false, loopE_done, loopE_ret]
                  exact ⟨p_s.length - (k5 + 1), by omega, k5 + 1, rfl, hlt19, rfl, rfl, rfl, hf281, (loopM.cont hlt19 hB477).symm.trans hI13⟩
                · skip
                  refine CW.cond_t rfl (not_f hb476) ?_
                  refine CW.seq ?_
                  refine CW.region ?_
                  refine SeqR.d1 rfl rfl rfl (yl_assign rfl rfl ?_)
                  refine SeqR.done ?_
                  refine tn ?_
                  refine CW.ret ?_
                  refine br ?_
                  refine tr ?_
                  refine tr ?_
                  have hB479 : B_s_l3Bytes_0 p_s p_more k5 () = .ret false := by simp only [B_s_l3Bytes_0, hb20, hb21, hb251, hb476, hL475, cond_true, cond_false, loopE_done, loopE_ret]
                  have hL478 : loopM (B_s_l3Bytes_0 p_s p_more) (p_s.length - 0) 0 () = .ret false := hI13.symm.trans (loopM.ret hlt19 hB479)
                  refine br ?_
                  refine tr ?_
                  refine rr rfl (.cons rfl .nil) ?_
                  have hM480 : (s_l3Bytes p_s p_more) = (false) := by simp only [s_l3Bytes, hb20, hb21, hb251, hb476, hL475, hL478, cond_true, cond_false, loopE_done, loopE_ret]
                  rw [hM480]
                  exact ⟨rfl, hf281⟩
          · have hb251p := dec_f hb251
            refine SeqR.z rfl rfl rfl rfl rfl hb251 ?_
            refine SeqR.z rfl rfl rfl rfl rfl hb251 ?_
            refine SeqR.z rfl rfl rfl rfl rfl hb251 ?_
            refine SeqR.z rfl rfl rfl rfl rfl hb251 ?_
            refine SeqR.y rfl rfl rfl rfl rfl hb21 (yl_pick_f rfl rfl hb251 rfl ?_)
            refine SeqR.d1 rfl rfl rfl (yl_pick_f rfl rfl hb21 rfl ?_)
            refine SeqR.d1 rfl rfl rfl (yl_assign rfl rfl ?_)
            refine SeqR.done ?_
            refine tn ?_
            refine CW.seq ?_
            refine CW.seq ?_
            refine CW.region ?_
            refine SeqR.d1 rfl rfl rfl (yl_assign rfl rfl ?_)
            refine SeqR.done ?_
            refine tn ?_
            refine CW.block ?_
            refine CW.loop (fun m483 L484 w485 => ∃ (k481 : Nat) (x482 : Bool), m483 = p_more.length - k481 ∧ k481 ≤ p_more.length ∧ lkp L484 0 = some (.string (bs (p_s))) ∧ lkp L484 1 = some (.string (bs (p_more))) ∧ lkp L484 5 = some (.int .i64 ((k5 : Int))) ∧ lkp L484 6 = some (.bool (x482)) ∧ lkp L484 7 = some (.int .i64 ((k481 : Int))) ∧ lkp L484 19 = some (.string (bs (p_s))) ∧ lkp L484 20 = some (.int .i64 ((k5 : Int))) ∧ lkp L484 21 = some (.int .u8 (((p_s.getD k5 0).toNat : Int))) ∧ lkp L484 22 = some (.bool (decide (((p_s.getD k5 0).toNat : Int) ≤ 122))) ∧ lkp L484 25 = some (.string (bs (p_s))) ∧ lkp L484 26 = some (.int .i64 ((k5 : Int))) ∧ lkp L484 27 = some (.int .u8 (((p_s.getD k5 0).toNat : Int))) ∧ lkp L484 28 = some (.bool (decide (48 ≤ ((p_s.getD k5 0).toNat : Int)))) ∧ lkp L484 29 = some (.bool (decide (48 ≤ ((p_s.getD k5 0).toNat : Int)))) ∧ lkp L484 30 = some (undef) ∧ lkp L484 31 = some (undef) ∧ lkp L484 32 = some (undef) ∧ lkp L484 33 = some (undef) ∧ lkp L484 34 = some (.bool (false)) ∧ Ex w w485 ∧ loopM (B_s_l3Bytes_1 p_s p_more k5) (p_more.length - k481) k481 (x482) = loopM (B_s_l3Bytes_1 p_s p_more k5) (p_more.length - 0) 0 (false)) (p_more.length - 0) ?_ ?_
            · exact ⟨0, false, rfl, Nat.zero_le _, rfl, rfl, rfl, rfl, rfl, rfl, rfl, rfl, rfl, rfl, rfl, rfl, rfl, rfl, rfl, rfl, rfl, rfl, rfl, hf17, rfl⟩
            · rintro m486 L487 w488 ⟨k481, x482, rfl, hk489, hl491, hl492, hl493, hl494, hl495, hl496, hl497, hl498, hl499, hl500, hl501, hl502, hl503, hl504, hl505, hl506, hl507, hl508, hl509, hf510, hI490⟩
              refine CW.sub (Sub.cons hl491 (Sub.cons hl492 (Sub.cons hl493 (Sub.cons hl494 (Sub.cons hl495 (Sub.cons hl496 (Sub.cons hl497 (Sub.cons hl498 (Sub.cons hl499 (Sub.cons hl500 (Sub.cons hl501 (Sub.cons hl502 (Sub.cons hl503 (Sub.cons hl504 (Sub.cons hl505 (Sub.cons hl506 (Sub.cons hl507 (Sub.cons hl508 (Sub.cons hl509 (Sub.nil _)))))))))))))))))))) ?_
              have hf510z := Ex.size hf510
              have hbg511 : p_more.length ≤ 1073741824 := o2
              rcases Nat.lt_or_ge k481 p_more.length with hlt512 | hlt512
              · skip
                refine CW.seq ?_
                refine CW.seq ?_
                refine CW.region ?_
                refine SeqR.d1 rfl rfl rfl (yl_move rfl rfl ?_)
                refine SeqR.d1 rfl rfl rfl (yl_move rfl rfl ?_)
                refine SeqR.d1 rfl rfl rfl (yl_slen Try.un9 (a := p_more) rfl rfl ?_)
                refine SeqR.d1 rfl rfl rfl (yl_lss rfl rfl rfl ?_)
                refine SeqR.done ?_
                refine tn ?_
                refine CW.cond_t rfl (lt_t hlt512) ?_
                refine CW.skip ?_
                refine tn ?_
                refine CW.seq ?_
                refine CW.block ?_
                refine bcase (x482) (fun hb513 => ?_) (fun hb513 => ?_)
                · skip
                  refine CW.drawsI 11 (vgetI [DetI (.bool (x482)), DetI (.bool (x482)), DetI (undef), DetI (undef), DetI (undef), DetI (undef), DetI (undef), DetI (undef), DetI (undef), DetI (.bool (true)), DetI (.bool (true))]) Try.follows rfl rfl rfl rfl rfl rfl (vgetI_stable ⟨StableI.det _, StableI.det _, StableI.det _, StableI.det _, StableI.det _, StableI.det _, StableI.det _, StableI.det _, StableI.det _, StableI.det _, StableI.det _, trivial⟩) ⟨?_, ?_, ?_, ?_, ?_, ?_, ?_, ?_, ?_, ?_, ?_, trivial⟩ ?_
                  · intro L514 w515 hi516
                    have hE517 := hi516.ex
                    have hE517z := Ex.size hE517
                    have hx518 := hi516.old 6 _ rfl rfl
                    exact OpR.op' rfl (Yl.sameI (yl_move rfl hx518 ⟨fun _ _ => rfl, rfl⟩))
                  · intro L519 w520 hi521
                    have hE522 := hi521.ex
                    have hE522z := Ex.size hE522
                    obtain ⟨_, _, _, hx523, -, -, -, rfl⟩ := hi521.dep 0 42 rfl rfl
                    exact OpR.op' rfl (Yl.sameI (yl_move rfl hx523 ⟨fun _ _ => rfl, rfl⟩))
                  · intro L524 w525 hi526
                    have hE527 := hi526.ex
                    have hE527z := Ex.size hE527
                    obtain ⟨_, _, _, hx528, -, -, -, rfl⟩ := hi526.dep 1 43 rfl rfl
                    exact OpR.skip rfl rfl hx528 hb513 ⟨rfl, Ex.refl _⟩
                  · intro L529 w530 hi531
                    have hE532 := hi531.ex
                    have hE532z := Ex.size hE532
                    obtain ⟨_, _, _, hx533, -, -, -, rfl⟩ := hi531.dep 1 43 rfl rfl
                    exact OpR.skip rfl rfl hx533 hb513 ⟨rfl, Ex.refl _⟩
                  · intro L534 w535 hi536
                    have hE537 := hi536.ex
                    have hE537z := Ex.size hE537
                    obtain ⟨_, _, _, hx538, -, -, -, rfl⟩ := hi536.dep 1 43 rfl rfl
                    exact OpR.skip rfl rfl hx538 hb513 ⟨rfl, Ex.refl _⟩
                  · intro L539 w540 hi541
                    have hE542 := hi541.ex
                    have hE542z := Ex.size hE542
                    obtain ⟨_, _, _, hx543, -, -, -, rfl⟩ := hi541.dep 1 43 rfl rfl
                    exact OpR.skip rfl rfl hx543 hb513 ⟨rfl, Ex.refl _⟩
                  · intro L544 w545 hi546
                    have hE547 := hi546.ex
                    have hE547z := Ex.size hE547
                    obtain ⟨_, _, _, hx548, -, -, -, rfl⟩ := hi546.dep 1 43 rfl rfl
                    exact OpR.skip rfl rfl hx548 hb513 ⟨rfl, Ex.refl _⟩
                  · intro L549 w550 hi551
                    have hE552 := hi551.ex
                    have hE552z := Ex.size hE552
                    obtain ⟨_, _, _, hx553, -, -, -, rfl⟩ := hi551.dep 1 43 rfl rfl
                    exact OpR.skip rfl rfl hx553 hb513 ⟨rfl, Ex.refl _⟩
                  · intro L554 w555 hi556
                    have hE557 := hi556.ex
                    have hE557z := Ex.size hE557
                    obtain ⟨_, _, _, hx558, -, -, -, rfl⟩ := hi556.dep 1 43 rfl rfl
                    exact OpR.skip rfl rfl hx558 hb513 ⟨rfl, Ex.refl _⟩
                  · intro L559 w560 hi561
                    have hE562 := hi561.ex
                    have hE562z := Ex.size hE562
                    obtain ⟨_, _, _, hx563, -, -, -, rfl⟩ := hi561.dep 8 50 rfl rfl
                    obtain ⟨_, _, _, hx564, -, -, -, rfl⟩ := hi561.dep 1 43 rfl rfl
                    exact OpR.op' rfl (Yl.sameI (yl_pick_t rfl hx564 hb513 rfl ⟨fun _ _ => rfl, rfl⟩))
                  · intro L565 w566 hi567
                    have hE568 := hi567.ex
                    have hE568z := Ex.size hE568
                    obtain ⟨_, _, _, hx569, -, -, -, rfl⟩ := hi567.dep 9 51 rfl rfl
                    exact OpR.op' rfl (Yl.sameI (yl_assign rfl hx569 ⟨fun _ _ => rfl, rfl⟩))
                  · intro fl573 fh574 L570 w571 hp572
                    have hE575 := hp572.ex
                    have hE575z := Ex.size hE575
                    have hx576 := hp572.old 0 _ rfl rfl
                    have hx577 := hp572.old 1 _ rfl rfl
                    have hx578 := hp572.old 5 _ rfl rfl
                    have hx579 := hp572.old 7 _ rfl rfl
                    have hx580 := hp572.old 19 _ rfl rfl
                    have hx581 := hp572.old 20 _ rfl rfl
                    have hx582 := hp572.old 21 _ rfl rfl
                    have hx583 := hp572.old 22 _ rfl rfl
                    have hx584 := hp572.old 25 _ rfl rfl
                    have hx585 := hp572.old 26 _ rfl rfl
                    have hx586 := hp572.old 27 _ rfl rfl
                    have hx587 := hp572.old 28 _ rfl rfl
                    have hx588 := hp572.old 29 _ rfl rfl
                    have hx589 := hp572.old 30 _ rfl rfl
                    have hx590 := hp572.old 31 _ rfl rfl
                    have hx591 := hp572.old 32 _ rfl rfl
                    have hx592 := hp572.old 33 _ rfl rfl
                    have hx593 := hp572.old 34 _ rfl rfl
                    obtain ⟨_, hx594, rfl⟩ := hp572.new 2 44 rfl rfl
                    obtain ⟨_, hx595, rfl⟩ := hp572.new 3 45 rfl rfl
                    obtain ⟨_, hx596, rfl⟩ := hp572.new 4 46 rfl rfl
                    obtain ⟨_, hx597, rfl⟩ := hp572.new 5 47 rfl rfl
                    obtain ⟨_, hx598, rfl⟩ := hp572.new 6 48 rfl rfl
                    obtain ⟨_, hx599, rfl⟩ := hp572.new 7 49 rfl rfl
                    obtain ⟨_, hx600, rfl⟩ := hp572.new 8 50 rfl rfl
                    obtain ⟨_, hx601, rfl⟩ := hp572.new 10 6 rfl rfl
                    refine SeqR.done ?_
                    refine bn ?_
                    refine tn ?_
                    refine CW.sub (Sub.cons (d := 0) hx576 (Sub.cons (d := 1) hx577 (Sub.cons (d := 5) hx578 (Sub.cons (d := 6) hx601 (Sub.cons (d := 7) hx579 (Sub.cons (d := 19) hx580 (Sub.cons (d := 20) hx581 (Sub.cons (d := 21) hx582 (Sub.cons (d := 22) hx583 (Sub.cons (d := 25) hx584 (Sub.cons (d := 26) hx585 (Sub.cons (d := 27) hx586 (Sub.cons (d := 28) hx587 (Sub.cons (d := 29) hx588 (Sub.cons (d := 30) hx589 (Sub.cons (d := 31) hx590 (Sub.cons (d := 32) hx591 (Sub.cons (d := 33) hx592 (Sub.cons (d := 34) hx593 (Sub.cons (d := 44) hx594 (Sub.cons (d := 45) hx595 (Sub.cons (d := 46) hx596 (Sub.cons (d := 47) hx597 (Sub.cons (d := 48) hx598 (Sub.cons (d := 49) hx599 (Sub.cons (d := 50) hx600 (Sub.nil _))))))))))))))))))))))))))) ?_
                    refine CW.region ?_
                    refine SeqR.d1 rfl rfl rfl (yl_move rfl rfl ?_)
                    refine SeqR.d1 rfl rfl rfl (yl_inc rfl rfl rfl (by omega) ?_)
                    refine SeqR.d1 rfl rfl rfl (yl_assign rfl rfl ?_)
                    refine SeqR.done ?_
                    refine tn ?_
                    have hB602 : B_s_l3Bytes_1 p_s p_more k5 k481 (x482) = .cont (true) := by simp only [B_s_l3Bytes_1, hb20, hb21, hb251, hb513, cond_true, cond_false, loopE_done, loopE_ret]
                    have q603 := Ex.trans hf510 hE575
                    exact ⟨p_more.length - (k481 + 1), by omega, k481 + 1, true, rfl, hlt512, rfl, rfl, rfl, rfl, rfl, rfl, rfl, rfl, rfl, rfl, rfl, rfl, rfl, rfl, rfl, rfl, rfl, rfl, rfl, q603, (loopM.cont hlt512 hB602).symm.trans hI490⟩
                · skip
                  refine CW.drawsI 11 (vgetI [DetI (.bool (x482)), DetI (.bool (x482)), DetI (.string (bs (p_s))), DetI (.int .i64 ((k5 : Int))), DetI (.int .u8 (((p_s.getD k5 0).toNat : Int))), DetI (.string (bs (p_more))), DetI (.int .i64 ((k481 : Int))), DetI (.int .u8 (((p_more.getD k481 0).toNat : Int))), DetI (.bool (decide (((p_s.getD k5 0).toNat : Int) = ((p_more.getD k481 0).toNat : Int)))), DetI (.bool (decide (((p_s.getD k5 0).toNat : Int) = ((p_more.getD k481 0).toNat : Int)))), DetI (.bool (decide (((p_s.getD k5 0).toNat : Int) = ((p_more.getD k481 0).toNat : Int))))]) Try.follows rfl rfl rfl rfl rfl rfl (vgetI_stable ⟨StableI.det _, StableI.det _, StableI.det _, StableI.det _, StableI.det _, StableI.det _, StableI.det _, StableI.det _, StableI.det _, StableI.det _, StableI.det _, trivial⟩) ⟨?_, ?_, ?_, ?_, ?_, ?_, ?_, ?_, ?_, ?_, ?_, trivial⟩ ?_
                  · intro L604 w605 hi606
                    have hE607 := hi606.ex
                    have hE607z := Ex.size hE607
                    have hx608 := hi606.old 6 _ rfl rfl
                    exact OpR.op' rfl (Yl.sameI (yl_move rfl hx608 ⟨fun _ _ => rfl, rfl⟩))
                  · intro L609 w610 hi611
                    have hE612 := hi611.ex
                    have hE612z := Ex.size hE612
                    obtain ⟨_, _, _, hx613, -, -, -, rfl⟩ := hi611.dep 0 42 rfl rfl
                    exact OpR.op' rfl (Yl.sameI (yl_move rfl hx613 ⟨fun _ _ => rfl, rfl⟩))
                  · intro L614 w615 hi616
                    have hE617 := hi616.ex
                    have hE617z := Ex.size hE617
                    obtain ⟨_, _, _, hx618, -, -, -, rfl⟩ := hi616.dep 1 43 rfl rfl
                    have hx619 := hi616.old 0 _ rfl rfl
                    exact OpR.want rfl rfl hx618 hb513 (Yl.sameI (yl_move rfl hx619 ⟨fun _ _ => rfl, rfl⟩))
                  · intro L620 w621 hi622
                    have hE623 := hi622.ex
                    have hE623z := Ex.size hE623
                    obtain ⟨_, _, _, hx624, -, -, -, rfl⟩ := hi622.dep 1 43 rfl rfl
                    have hx625 := hi622.old 5 _ rfl rfl
                    exact OpR.want rfl rfl hx624 hb513 (Yl.sameI (yl_move rfl hx625 ⟨fun _ _ => rfl, rfl⟩))
                  · intro L626 w627 hi628
                    have hE629 := hi628.ex
                    have hE629z := Ex.size hE629
                    obtain ⟨_, _, _, hx630, -, -, -, rfl⟩ := hi628.dep 1 43 rfl rfl
                    obtain ⟨_, _, _, hx631, -, -, -, rfl⟩ := hi628.dep 2 44 rfl rfl
                    obtain ⟨_, _, _, hx632, -, -, -, rfl⟩ := hi628.dep 3 45 rfl rfl
                    exact OpR.want rfl rfl hx630 hb513 (Yl.sameI (yl_sindexN Try.un9 (a := p_s) rfl hx631 hx632 (by first | omega | assumption | (simp only [IntKind.wrap_i64] at *; omega)) ⟨fun _ _ => rfl, rfl⟩))
                  · intro L633 w634 hi635
                    have hE636 := hi635.ex
                    have hE636z := Ex.size hE636
                    obtain ⟨_, _, _, hx637, -, -, -, rfl⟩ := hi635.dep 1 43 rfl rfl
                    have hx638 := hi635.old 1 _ rfl rfl
                    exact OpR.want rfl rfl hx637 hb513 (Yl.sameI (yl_move rfl hx638 ⟨fun _ _ => rfl, rfl⟩))
                  · intro L639 w640 hi641
                    have hE642 := hi641.ex
                    have hE642z := Ex.size hE642
                    obtain ⟨_, _, _, hx643, -, -, -, rfl⟩ := hi641.dep 1 43 rfl rfl
                    have hx644 := hi641.old 7 _ rfl rfl
                    exact OpR.want rfl rfl hx643 hb513 (Yl.sameI (yl_move rfl hx644 ⟨fun _ _ => rfl, rfl⟩))
                  · intro L645 w646 hi647
                    have hE648 := hi647.ex
                    have hE648z := Ex.size hE648
                    obtain ⟨_, _, _, hx649, -, -, -, rfl⟩ := hi647.dep 1 43 rfl rfl
                    obtain ⟨_, _, _, hx650, -, -, -, rfl⟩ := hi647.dep 5 47 rfl rfl
                    obtain ⟨_, _, _, hx651, -, -, -, rfl⟩ := hi647.dep 6 48 rfl rfl
                    exact OpR.want rfl rfl hx649 hb513 (Yl.sameI (yl_sindexN Try.un9 (a := p_more) rfl hx650 hx651 (by first | omega | assumption | (simp only [IntKind.wrap_i64] at *; omega)) ⟨fun _ _ => rfl, rfl⟩))
                  · intro L652 w653 hi654
                    have hE655 := hi654.ex
                    have hE655z := Ex.size hE655
                    obtain ⟨_, _, _, hx656, -, -, -, rfl⟩ := hi654.dep 1 43 rfl rfl
                    obtain ⟨_, _, _, hx657, -, -, -, rfl⟩ := hi654.dep 4 46 rfl rfl
                    obtain ⟨_, _, _, hx658, -, -, -, rfl⟩ := hi654.dep 7 49 rfl rfl
                    exact OpR.want rfl rfl hx656 hb513 (Yl.sameI (yl_eql rfl hx657 hx658 ⟨fun _ _ => rfl, rfl⟩))
                  · intro L659 w660 hi661
                    have hE662 := hi661.ex
                    have hE662z := Ex.size hE662
                    obtain ⟨_, _, _, hx663, -, -, -, rfl⟩ := hi661.dep 8 50 rfl rfl
                    obtain ⟨_, _, _, hx664, -, -, -, rfl⟩ := hi661.dep 1 43 rfl rfl
                    exact OpR.op' rfl (Yl.sameI (yl_pick_f rfl hx664 hb513 hx663 ⟨fun _ _ => rfl, rfl⟩))
                  · intro L665 w666 hi667
                    have hE668 := hi667.ex
                    have hE668z := Ex.size hE668
                    obtain ⟨_, _, _, hx669, -, -, -, rfl⟩ := hi667.dep 9 51 rfl rfl
                    exact OpR.op' rfl (Yl.sameI (yl_assign rfl hx669 ⟨fun _ _ => rfl, rfl⟩))
                  · intro fl673 fh674 L670 w671 hp672
                    have hE675 := hp672.ex
                    have hE675z := Ex.size hE675
                    have hx676 := hp672.old 0 _ rfl rfl
                    have hx677 := hp672.old 1 _ rfl rfl
                    have hx678 := hp672.old 5 _ rfl rfl
                    have hx679 := hp672.old 7 _ rfl rfl
                    have hx680 := hp672.old 19 _ rfl rfl
                    have hx681 := hp672.old 20 _ rfl rfl
                    have hx682 := hp672.old 21 _ rfl rfl
                    have hx683 := hp672.old 22 _ rfl rfl
                    have hx684 := hp672.old 25 _ rfl rfl
                    have hx685 := hp672.old 26 _ rfl rfl
                    have hx686 := hp672.old 27 _ rfl rfl
                    have hx687 := hp672.old 28 _ rfl rfl
                    have hx688 := hp672.old 29 _ rfl rfl
                    have hx689 := hp672.old 30 _ rfl rfl
                    have hx690 := hp672.old 31 _ rfl rfl
                    have hx691 := hp672.old 32 _ rfl rfl
                    have hx692 := hp672.old 33 _ rfl rfl
                    have hx693 := hp672.old 34 _ rfl rfl
                    obtain ⟨_, hx694, rfl⟩ := hp672.new 2 44 rfl rfl
                    obtain ⟨_, hx695, rfl⟩ := hp672.new 3 45 rfl rfl
                    obtain ⟨_, hx696, rfl⟩ := hp672.new 4 46 rfl rfl
                    obtain ⟨_, hx697, rfl⟩ := hp672.new 5 47 rfl rfl
                    obtain ⟨_, hx698, rfl⟩ := hp672.new 6 48 rfl rfl
                    obtain ⟨_, hx699, rfl⟩ := hp672.new 7 49 rfl rfl
                    obtain ⟨_, hx700, rfl⟩ := hp672.new 8 50 rfl rfl
                    obtain ⟨_, hx701, rfl⟩ := hp672.new 10 6 rfl rfl
                    refine SeqR.done ?_
                    refine bn ?_
                    refine tn ?_
                    refine CW.sub (Sub.cons (d := 0) hx676 (Sub.cons (d := 1) hx677 (Sub.cons (d := 5) hx678 (Sub.cons (d := 6) hx701 (Sub.cons (d := 7) hx679 (Sub.cons (d := 19) hx680 (Sub.cons (d := 20) hx681 (Sub.cons (d := 21) hx682 (Sub.cons (d := 22) hx683 (Sub.cons (d := 25) hx684 (Sub.cons (d := 26) hx685 (Sub.cons (d := 27) hx686 (Sub.cons (d := 28) hx687 (Sub.cons (d := 29) hx688 (Sub.cons (d := 30) hx689 (Sub.cons (d := 31) hx690 (Sub.cons (d := 32) hx691 (Sub.cons (d := 33) hx692 (Sub.cons (d := 34) hx693 (Sub.cons (d := 44) hx694 (Sub.cons (d := 45) hx695 (Sub.cons (d := 46) hx696 (Sub.cons (d := 47) hx697 (Sub.cons (d := 48) hx698 (Sub.cons (d := 49) hx699 (Sub.cons (d := 50) hx700 (Sub.nil _))))))))))))))))))))))))))) ?_
                    refine CW.region ?_
                    refine SeqR.d1 rfl rfl rfl (yl_move rfl rfl ?_)
                    refine SeqR.d1 rfl rfl rfl (yl_inc rfl rfl rfl (by omega) ?_)
                    refine SeqR.d1 rfl rfl rfl (yl_assign rfl rfl ?_)
                    refine SeqR.done ?_
                    refine tn ?_
                    have hB702 : B_s_l3Bytes_1 p_s p_more k5 k481 (x482) = .cont (decide (((p_s.getD k5 0).toNat : Int) = ((p_more.getD k481 0).toNat : Int))) := by simp only [B_s_l3Bytes_1, hb20, hb21, hb251, hb513, cond_true, cond_false, loopE_done, loopE_ret]
                    have q703 := Ex.trans hf510 hE675
                    exact ⟨p_more.length - (k481 + 1), by omega, k481 + 1, decide (((p_s.getD k5 0).toNat : Int) = ((p_more.getD k481 0).toNat : Int)), rfl, hlt512, rfl, rfl, rfl, rfl, rfl, rfl, rfl, rfl, rfl, rfl, rfl, rfl, rfl, rfl, rfl, rfl, rfl, rfl, rfl, q703, (loopM.cont hlt512 hB702).symm.trans hI490⟩
              · skip
                refine CW.seq ?_
                refine CW.seq ?_
                refine CW.region ?_
                refine SeqR.d1 rfl rfl rfl (yl_move rfl rfl ?_)
                refine SeqR.d1 rfl rfl rfl (yl_move rfl rfl ?_)
                refine SeqR.d1 rfl rfl rfl (yl_slen Try.un9 (a := p_more) rfl rfl ?_)
                refine SeqR.d1 rfl rfl rfl (yl_lss rfl rfl rfl ?_)
                refine SeqR.done ?_
                refine tn ?_
                refine CW.cond_f rfl (lt_f hlt512) ?_
                refine CW.exit ?_
                refine tx ?_
                refine tx ?_
                have hL704 : loopM (B_s_l3Bytes_1 p_s p_more k5) (p_more.length - 0) 0 (false) = .done (x482) := hI490.symm.trans (loopM.stop hlt512)
                refine bx ?_
                refine tn ?_
                refine CW.seq ?_
                refine CW.region ?_
                refine SeqR.d1 rfl rfl rfl (yl_move rfl rfl ?_)
                refine SeqR.d1 rfl rfl rfl (yl_not rfl rfl ?_)
                refine SeqR.done ?_
                refine tn ?_
                refine bcase (x482) (fun hb705 => ?_) (fun hb705 => ?_)
                · skip
                  refine CW.cond_f rfl (not_t hb705) ?_
                  refine CW.skip ?_
                  refine bn ?_
                  refine tn ?_
                  refine CW.region ?_
                  refine SeqR.d1 rfl rfl rfl (yl_move rfl rfl ?_)
                  refine SeqR.d1 rfl rfl rfl (yl_inc rfl rfl rfl (by omega) ?_)
                  refine SeqR.d1 rfl rfl rfl (yl_assign rfl rfl ?_)
                  refine SeqR.done ?_
                  refine tn ?_
                  have hB706 : B_s_l3Bytes_0 p_s p_more k5 () = .cont () := by simp only [B_s_l3Bytes_0, hb20, hb21, hb251, hb705, hL704, cond_true, cond_false, loopE_done, loopE_ret]
                  exact ⟨p_s.length - (k5 + 1), by omega, k5 + 1, rfl, hlt19, rfl, rfl, rfl, hf510, (loopM.cont hlt19 hB706).symm.trans hI13⟩
                · skip
                  refine CW.cond_t rfl (not_f hb705) ?_
                  refine CW.seq ?_
                  refine CW.region ?_
                  refine SeqR.d1 rfl rfl rfl (yl_assign rfl rfl ?_)
                  refine SeqR.done ?_
                  refine tn ?_
                  refine CW.ret ?_
                  refine br ?_
                  refine tr ?_
                  refine tr ?_
                  have hB708 : B_s_l3Bytes_0 p_s p_more k5 () = .ret false := by simp only [B_s_l3Bytes_0, hb20, hb21, hb251, hb705, hL704, cond_true, cond_false, loopE_done, loopE_ret]
                  have hL707 : loopM (B_s_l3Bytes_0 p_s p_more) (p_s.length - 0) 0 () = .ret false := hI13.symm.trans (loopM.ret hlt19 hB708)
                  refine br ?_
                  refine tr ?_
                  refine rr rfl (.cons rfl .nil) ?_
                  have hM709 : (s_l3Bytes p_s p_more) = (false) := by simp only [s_l3Bytes, hb20, hb21, hb251, hb705, hL704, hL707, cond_true, cond_false, loopE_done, loopE_ret]
                  rw [hM709]
                  exact ⟨rfl, hf510⟩
      · have hb20p := dec_f hb20
        refine SeqR.z rfl rfl rfl rfl rfl hb20 ?_
        refine SeqR.z rfl rfl rfl rfl rfl hb20 ?_
        refine SeqR.z rfl rfl rfl rfl rfl hb20 ?_
        refine SeqR.z rfl rfl rfl rfl rfl hb20 ?_
        refine SeqR.d1 rfl rfl rfl (yl_pick_f rfl rfl hb20 rfl ?_)
        refine SeqR.d1 rfl rfl rfl (yl_move rfl rfl ?_)
        refine SeqR.y rfl rfl rfl rfl rfl rfl (yl_move rfl rfl ?_)
        refine SeqR.y rfl rfl rfl rfl rfl rfl (yl_move rfl rfl ?_)
        refine SeqR.y rfl rfl rfl rfl rfl rfl (yl_sindexN Try.un9 (a := p_s) rfl rfl rfl (by first | omega | assumption | (simp only [IntKind.wrap_i64] at *; omega)) ?_)
        refine SeqR.y rfl rfl rfl rfl rfl rfl (yl_geq rfl rfl rfl ?_)
        refine SeqR.y rfl rfl rfl rfl rfl rfl (yl_move rfl rfl ?_)
        refine bcase (decide (48 ≤ ((p_s.getD k5 0).toNat : Int))) (fun hb710 => ?_) (fun hb710 => ?_)
        · have hb710p := dec_t hb710
          refine SeqR.y rfl rfl rfl rfl rfl hb710 (yl_move rfl rfl ?_)
          refine SeqR.y rfl rfl rfl rfl rfl hb710 (yl_move rfl rfl ?_)
          refine SeqR.y rfl rfl rfl rfl rfl hb710 (yl_sindexN Try.un9 (a := p_s) rfl rfl rfl (by first | omega | assumption | (simp only [IntKind.wrap_i64] at *; omega)) ?_)
          refine SeqR.y rfl rfl rfl rfl rfl hb710 (yl_leq rfl rfl rfl ?_)
          refine SeqR.y rfl rfl rfl rfl rfl rfl (yl_pick_t rfl rfl hb710 rfl ?_)
          refine SeqR.d1 rfl rfl rfl (yl_pick_f rfl rfl rfl rfl ?_)
          refine SeqR.d1 rfl rfl rfl (yl_assign rfl rfl ?_)
          refine SeqR.done ?_
          refine tn ?_
          refine CW.seq ?_
          refine CW.seq ?_
          refine CW.region ?_
          refine SeqR.d1 rfl rfl rfl (yl_assign rfl rfl ?_)
          refine SeqR.done ?_
          refine tn ?_
          refine CW.block ?_
          refine CW.loop (fun m713 L714 w715 => ∃ (k711 : Nat) (x712 : Bool), m713 = p_more.length - k711 ∧ k711 ≤ p_more.length ∧ lkp L714 0 = some (.string (bs (p_s))) ∧ lkp L714 1 = some (.string (bs (p_more))) ∧ lkp L714 5 = some (.int .i64 ((k5 : Int))) ∧ lkp L714 6 = some (.bool (x712)) ∧ lkp L714 7 = some (.int .i64 ((k711 : Int))) ∧ lkp L714 19 = some (undef) ∧ lkp L714 20 = some (undef) ∧ lkp L714 21 = some (undef) ∧ lkp L714 22 = some (undef) ∧ lkp L714 25 = some (.string (bs (p_s))) ∧ lkp L714 26 = some (.int .i64 ((k5 : Int))) ∧ lkp L714 27 = some (.int .u8 (((p_s.getD k5 0).toNat : Int))) ∧ lkp L714 28 = some (.bool (decide (48 ≤ ((p_s.getD k5 0).toNat : Int)))) ∧ lkp L714 29 = some (.bool (decide (48 ≤ ((p_s.getD k5 0).toNat : Int)))) ∧ lkp L714 30 = some (.string (bs (p_s))) ∧ lkp L714 31 = some (.int .i64 ((k5 : Int))) ∧ lkp L714 32 = some (.int .u8 (((p_s.getD k5 0).toNat : Int))) ∧ lkp L714 33 = some (.bool (decide (((p_s.getD k5 0).toNat : Int) ≤ 57))) ∧ lkp L714 34 = some (.bool (decide (((p_s.getD k5 0).toNat : Int) ≤ 57))) ∧ Ex w w715 ∧ loopM (B_s_l3Bytes_1 p_s p_more k5) (p_more.length - k711) k711 (x712) = loopM (B_s_l3Bytes_1 p_s p_more k5) (p_more.length - 0) 0 (decide (((p_s.getD k5 0).toNat : Int) ≤ 57))) (p_more.length - 0) ?_ ?_
          · exact ⟨0, decide (((p_s.getD k5 0).toNat : Int) ≤ 57), rfl, Nat.zero_le _, rfl, rfl, rfl, rfl, rfl, rfl, rfl, rfl, rfl, rfl, rfl, rfl, rfl, rfl, rfl, rfl, rfl, rfl, rfl, hf17, rfl⟩
          · rintro m716 L717 w718 ⟨k711, x712, rfl, hk719, hl721, hl722, hl723, hl724, hl725, hl726, hl727, hl728, hl729, hl730, hl731, hl732, hl733, hl734, hl735, hl736, hl737, hl738, hl739, hf740, hI720⟩
            refine CW.sub (Sub.cons hl721 (Sub.cons hl722 (Sub.cons hl723 (Sub.cons hl724 (Sub.cons hl725 (Sub.cons hl726 (Sub.cons hl727 (Sub.cons hl728 (Sub.cons hl729 (Sub.cons hl730 (Sub.cons hl731 (Sub.cons hl732 (Sub.cons hl733 (Sub.cons hl734 (Sub.cons hl735 (Sub.cons hl736 (Sub.cons hl737 (Sub.cons hl738 (Sub.cons hl739 (Sub.nil _)))))))))))))))))))) ?_
            have hf740z := Ex.size hf740
            have hbg741 : p_more.length ≤ 1073741824 := o2
            rcases Nat.lt_or_ge k711 p_more.length with hlt742 | hlt742
            · skip
              refine CW.seq ?_
              refine CW.seq ?_
              refine CW.region ?_
              refine SeqR.d1 rfl rfl rfl (yl_move rfl rfl ?_)
              refine SeqR.d1 rfl rfl rfl (yl_move rfl rfl ?_)
              refine SeqR.d1 rfl rfl rfl (yl_slen Try.un9 (a := p_more) rfl rfl ?_)
              refine SeqR.d1 rfl rfl rfl (yl_lss rfl rfl rfl ?_)
              refine SeqR.done ?_
              refine tn ?_
              refine CW.cond_t rfl (lt_t hlt742) ?_
              refine CW.skip ?_
              refine tn ?_
              refine CW.seq ?_
              refine CW.block ?_
              refine bcase (x712) (fun hb743 => ?_) (fun hb743 => ?_)
              · skip
                refine CW.drawsI 11 (vgetI [DetI (.bool (x712)), DetI (.bool (x712)), DetI (undef), DetI (undef), DetI (undef), DetI (undef), DetI (undef), DetI (undef), DetI (undef), DetI (.bool (true)), DetI (.bool (true))]) Try.follows rfl rfl rfl rfl rfl rfl (vgetI_stable ⟨StableI.det _, StableI.det _, StableI.det _, StableI.det _, StableI.det _, StableI.det _, StableI.det _, StableI.det _, StableI.det _, StableI.det _, StableI.det _, trivial⟩) ⟨?_, ?_, ?_, ?_, ?_, ?_, ?_, ?_, ?_, ?_, ?_, trivial⟩ ?_
                · intro L744 w745 hi746
                  have hE747 := hi746.ex
                  have hE747z := Ex.size hE747
                  have hx748 := hi746.old 6 _ rfl rfl
                  exact OpR.op' rfl (Yl.sameI (yl_move rfl hx748 ⟨fun _ _ => rfl, rfl⟩))
                · intro L749 w750 hi751
                  have hE752 := hi751.ex
                  have hE752z := Ex.size hE752
                  obtain ⟨_, _, _, hx753, -, -, -, rfl⟩ := hi751.dep 0 42 rfl rfl
                  exact OpR.op' rfl (Yl.sameI (yl_move rfl hx753 ⟨fun _ _ => rfl, rfl⟩))
                · intro L754 w755 hi756
                  have hE757 := hi756.ex
                  have hE757z := Ex.size hE757
                  obtain ⟨_, _, _, hx758, -, -, -, rfl⟩ := hi756.dep 1 43 rfl rfl
                  exact OpR.skip rfl rfl hx758 hb743 ⟨rfl, Ex.refl _⟩
                · intro L759 w760 hi761
                  have hE762 := hi761.ex
                  have hE762z := Ex.size hE762
                  obtain ⟨_, _, _, hx763, -, -, -, rfl⟩ := hi761.dep 1 43 rfl rfl
                  exact OpR.skip rfl rfl hx763 hb743 ⟨rfl, Ex.refl _⟩
                · intro L764 w765 hi766
                  have hE767 := hi766.ex
                  have hE767z := Ex.size hE767
                  obtain ⟨_, _, _, hx768, -, -, -, rfl⟩ := hi766.dep 1 43 rfl rfl
                  exact OpR.skip rfl rfl hx768 hb743 ⟨rfl, Ex.refl _⟩
                · intro L769 w770 hi771
                  have hE772 := hi771.ex
                  have hE772z := Ex.size hE772
                  obtain ⟨_, _, _, hx773, -, -, -, rfl⟩ := hi771.dep 1 43 rfl rfl
                  exact OpR.skip rfl rfl hx773 hb743 ⟨rfl, Ex.refl _⟩
                · intro L774 w775 hi776
                  have hE777 := hi776.ex
                  have hE777z := Ex.size hE777
                  obtain ⟨_, _, _, hx778, -, -, -, rfl⟩ := hi776.dep 1 43 rfl rfl
                  exact OpR.skip rfl rfl hx778 hb743 ⟨rfl, Ex.refl _⟩
                · intro L779 w780 hi781
                  have hE782 := hi781.ex
                  have hE782z := Ex.size hE782
                  obtain ⟨_, _, _, hx783, -, -, -, rfl⟩ := hi781.dep 1 43 rfl rfl
                  exact OpR.skip rfl rfl hx783 hb743 ⟨rfl, Ex.refl _⟩
                · intro L784 w785 hi786
                  have hE787 := hi786.ex
                  have hE787z := Ex.size hE787
                  obtain ⟨_, _, _, hx788, -, -, -, rfl⟩ := hi786.dep 1 43 rfl rfl
                  exact OpR.skip rfl rfl hx788 hb743 ⟨rfl, Ex.refl _⟩
                · intro L789 w790 hi791
                  have hE792 := hi791.ex
                  have hE792z := Ex.size hE792
                  obtain ⟨_, _, _, hx793, -, -, -, rfl⟩ := hi791.dep 8 50 rfl rfl
                  obtain ⟨_, _, _, hx794, -, -, -, rfl⟩ := hi791.dep 1 43 rfl rfl
                  exact OpR.op' rfl (Yl.sameI (yl_pick_t rfl hx794 hb743 rfl ⟨fun _ _ => rfl, rfl⟩))
                · intro L795 w796 hi797
                  have hE798 := hi797.ex
                  have hE798z := Ex.size hE798
                  obtain ⟨_, _, _, hx799, -, -, -, rfl⟩ := hi797.dep 9 51 rfl rfl
                  exact OpR.op' rfl (Yl.sameI (yl_assign rfl hx799 ⟨fun _ _ => rfl, rfl⟩))
                · intro fl803 fh804 L800 w801 hp802
                  have hE805 := hp802.ex
                  have hE805z := Ex.size hE805
                  have hx806 := hp802.old 0 _ rfl rfl
                  have hx807 := hp802.old 1 _ rfl rfl
                  have hx808 := hp802.old 5 _ rfl rfl
                  have hx809 := hp802.old 7 _ rfl rfl
                  have hx810 := hp802.old 19 _ rfl rfl
                  have hx811 := hp802.old 20 _ rfl rfl
                  have hx812 := hp802.old 21 _ rfl rfl
                  have hx813 := hp802.old 22 _ rfl rfl
                  have hx814 := hp802.old 25 _ rfl rfl
                  have hx815 := hp802.old 26 _ rfl rfl
                  have hx816 := hp802.old 27 _ rfl rfl
                  have hx817 := hp802.old 28 _ rfl rfl
                  have hx818 := hp802.old 29 _ rfl rfl
                  have hx819 := hp802.old 30 _ rfl rfl
                  have hx820 := hp802.old 31 _ rfl rfl
                  have hx821 := hp802.old 32 _ rfl rfl
                  have hx822 := hp802.old 33 _ rfl rfl
                  have hx823 := hp802.old 34 _ rfl rfl
                  obtain ⟨_, hx824, rfl⟩ := hp802.new 2 44 rfl rfl
                  obtain ⟨_, hx825, rfl⟩ := hp802.new 3 45 rfl rfl
                  obtain ⟨_, hx826, rfl⟩ := hp802.new 4 46 rfl rfl
                  obtain ⟨_, hx827, rfl⟩ := hp802.new 5 47 rfl rfl
                  obtain ⟨_, hx828, rfl⟩ := hp802.new 6 48 rfl rfl
                  obtain ⟨_, hx829, rfl⟩ := hp802.new 7 49 rfl rfl
                  obtain ⟨_, hx830, rfl⟩ := hp802.new 8 50 rfl rfl
                  obtain ⟨_, hx831, rfl⟩ := hp802.new 10 6 rfl rfl
                  refine SeqR.done ?_
                  refine bn ?_
                  refine tn ?_
                  refine CW.sub (Sub.cons (d := 0) hx806 (Sub.cons (d := 1) hx807 (Sub.cons (d := 5) hx808 (Sub.cons (d := 6) hx831 (Sub.cons (d := 7) hx809 (Sub.cons (d := 19) hx810 (Sub.cons (d := 20) hx811 (Sub.cons (d := 21) hx812 (Sub.cons (d := 22) hx813 (Sub.cons (d := 25) hx814 (Sub.cons (d := 26) hx815 (Sub.cons (d := 27) hx816 (Sub.cons (d := 28) hx817 (Sub.cons (d := 29) hx818 (Sub.cons (d := 30) hx819 (Sub.cons (d := 31) hx820 (Sub.cons (d := 32) hx821 (Sub.cons (d := 33) hx822 (Sub.cons (d := 34) hx823 (Sub.cons (d := 44) hx824 (Sub.cons (d := 45) hx825 (Sub.cons (d := 46) hx826 (Sub.cons (d := 47) hx827 (Sub.cons (d := 48) hx828 (Sub.cons (d := 49) hx829 (Sub.cons (d := 50) hx830 (Sub.nil _))))))))))))))))))))))))))) ?_
                  refine CW.region ?_
                  refine SeqR.d1 rfl rfl rfl (yl_move rfl rfl ?_)
                  refine SeqR.d1 rfl rfl rfl (yl_inc rfl rfl rfl (by omega) ?_)
                  refine SeqR.d1 rfl rfl rfl (yl_assign rfl rfl ?_)
                  refine SeqR.done ?_
                  refine tn ?_
                  have hB832 : B_s_l3Bytes_1 p_s p_more k5 k711 (x712) = .cont (true) := by simp only [B_s_l3Bytes_1, hb20, hb710, hb743, cond_true, cond_false, loopE_done, loopE_ret]
                  have q833 := Ex.trans hf740 hE805
                  exact ⟨p_more.length - (k711 + 1), by omega, k711 + 1, true, rfl, hlt742, rfl, rfl, rfl, rfl, rfl, rfl, rfl, rfl, rfl, rfl, rfl, rfl, rfl, rfl, rfl, rfl, rfl, rfl, rfl, q833, (loopM.cont hlt742 hB832).symm.trans hI720⟩
              · skip
                refine CW.drawsI 11 (vgetI [DetI (.bool (x712)), DetI (.bool (x712)), DetI (.string (bs (p_s))), DetI (.int .i64 ((k5 : Int))), DetI (.int .u8 (((p_s.getD k5 0).toNat : Int))), DetI (.string (bs (p_more))), DetI (.int .i64 ((k711 : Int))), DetI (.int .u8 (((p_more.getD k711 0).toNat : Int))), DetI (.bool (decide (((p_s.getD k5 0).toNat : Int) = ((p_more.getD k711 0).toNat : Int)))), DetI (.bool (decide (((p_s.getD k5 0).toNat : Int) = ((p_more.getD k711 0).toNat : Int)))), DetI (.bool (decide (((p_s.getD k5 0).toNat : Int) = ((p_more.getD k711 0).toNat : Int))))]) Try.follows rfl rfl rfl rfl rfl rfl (vgetI_stable ⟨StableI.det _, StableI.det _, StableI.det _, StableI.det _, StableI.det _, StableI.det _, StableI.det _, StableI.det _, StableI.det _, StableI.det _, StableI.det _, trivial⟩) ⟨?_, ?_, ?_, ?_, ?_, ?_, ?_, ?_, ?_, ?_, ?_, trivial⟩ ?_
                · intro L834 w835 hi836
                  have hE837 := hi836.ex
                  have hE837z := Ex.size hE837
                  have hx838 := hi836.old 6 _ rfl rfl
                  exact OpR.op' rfl (Yl.sameI (yl_move rfl hx838 ⟨fun _ _ => rfl, rfl⟩))
                · intro L839 w840 hi841
                  have hE842 := hi841.ex
                  have hE842z := Ex.size hE842
                  obtain ⟨_, _, _, hx843, -, -, -, rfl⟩ := hi841.dep 0 42 rfl rfl
                  exact OpR.op' rfl (Yl.sameI (yl_move rfl hx843 ⟨fun _ _ => rfl, rfl⟩))
                · intro L844 w845 hi846
                  have hE847 := hi846.ex
                  have hE847z := Ex.size hE847
                  obtain ⟨_, _, _, hx848, -, -, -, rfl⟩ := hi846.dep 1 43 rfl rfl
                  have hx849 := hi846.old 0 _ rfl rfl
                  exact OpR.want rfl rfl hx848 hb743 (Yl.sameI (yl_move rfl hx849 ⟨fun _ _ => rfl, rfl⟩))
                · intro L850 w851 hi852
                  have hE853 := hi852.ex
                  have hE853z := Ex.size hE853
                  obtain ⟨_, _, _, hx854, -, -, -, rfl⟩ := hi852.dep 1 43 rfl rfl
                  have hx855 := hi852.old 5 _ rfl rfl
                  exact OpR.want rfl rfl hx854 hb743 (Yl.sameI (yl_move rfl hx855 ⟨fun _ _ => rfl, rfl⟩))
                · intro L856 w857 hi858
                  have hE859 := hi858.ex
                  have hE859z := Ex.size hE859
                  obtain ⟨_, _, _, hx860, -, -, -, rfl⟩ := hi858.dep 1 43 rfl rfl
                  obtain ⟨_, _, _, hx861, -, -, -, rfl⟩ := hi858.dep 2 44 rfl rfl
                  obtain ⟨_, _, _, hx862, -, -, -, rfl⟩ := hi858.dep 3 45 rfl rfl
                  exact OpR.want rfl rfl hx860 hb743 (Yl.sameI (yl_sindexN Try.un9 (a := p_s) rfl hx861 hx862 (by first | omega | assumption | (simp only [IntKind.wrap_i64] at *; omega)) ⟨fun _ _ => rfl, rfl⟩))
                · intro L863 w864 hi865
                  have hE866 := hi865.ex
                  have hE866z := Ex.size hE866
                  obtain ⟨_, _, _, hx867, -, -, -, rfl⟩ := hi865.dep 1 43 rfl rfl
                  have hx868 := hi865.old 1 _ rfl rfl
                  exact OpR.want rfl rfl hx867 hb743 (Yl.sameI (yl_move rfl hx868 ⟨fun _ _ => rfl, rfl⟩))
                · intro L869 w870 hi871
                  have hE872 := hi871.ex
                  have hE872z := Ex.size hE872
                  obtain ⟨_, _, _, hx873, -, -, -, rfl⟩ := hi871.dep 1 43 rfl rfl
                  have hx874 := hi871.old 7 _ rfl rfl
                  exact OpR.want rfl rfl hx873 hb743 (Yl.sameI (yl_move rfl hx874 ⟨fun _ _ => rfl, rfl⟩))
                · intro L875 w876 hi877
                  have hE878 := hi877.ex
                  have hE878z := Ex.size hE878
                  obtain ⟨_, _, _, hx879, -, -, -, rfl⟩ := hi877.dep 1 43 rfl rfl
                  obtain ⟨_, _, _, hx880, -, -, -, rfl⟩ := hi877.dep 5 47 rfl rfl
                  obtain ⟨_, _, _, hx881, -, -, -, rfl⟩ := hi877.dep 6 48 rfl rfl
                  exact OpR.want rfl rfl hx879 hb743 (Yl.sameI (yl_sindexN Try.un9 (a := p_more) rfl hx880 hx881 (by first | omega | assumption | (simp only [IntKind.wrap_i64] at *; omega)) ⟨fun _ _ => rfl, rfl⟩))
                · intro L882 w883 hi884
                  have hE885 := hi884.ex
                  have hE885z := Ex.size hE885
                  obtain ⟨_, _, _, hx886, -, -, -, rfl⟩ := hi884.dep 1 43 rfl rfl
                  obtain ⟨_, _, _, hx887, -, -, -, rfl⟩ := hi884.dep 4 46 rfl rfl
                  obtain ⟨_, _, _, hx888, -, -, -, rfl⟩ := hi884.dep 7 49 rfl rfl
                  exact OpR.want rfl rfl hx886 hb743 (Yl.sameI (yl_eql rfl hx887 hx888 ⟨fun _ _ => rfl, rfl⟩))
                · intro L889 w890 hi891
                  have hE892 := hi891.ex
                  have hE892z := Ex.size hE892
                  obtain ⟨_, _, _, hx893, -, -, -, rfl⟩ := hi891.dep 8 50 rfl rfl
                  obtain ⟨_, _, _, hx894, -, -, -, rfl⟩ := hi891.dep 1 43 rfl rfl
                  exact OpR.op' rfl (Yl.sameI (yl_pick_f rfl hx894 hb743 hx893 ⟨fun _ _ => rfl, rfl⟩))
                · intro L895 w896 hi897
                  have hE898 := hi897.ex
                  have hE898z := Ex.size hE898
                  obtain ⟨_, _, _, hx899, -, -, -, rfl⟩ := hi897.dep 9 51 rfl rfl
                  exact OpR.op' rfl (Yl.sameI (yl_assign rfl hx899 ⟨fun _ _ => rfl, rfl⟩))
                · intro fl903 fh904 L900 w901 hp902
                  have hE905 := hp902.ex
                  have hE905z := Ex.size hE905
                  have hx906 := hp902.old 0 _ rfl rfl
                  have hx907 := hp902.old 1 _ rfl rfl
                  have hx908 := hp902.old 5 _ rfl rfl
                  have hx909 := hp902.old 7 _ rfl rfl
                  have hx910 := hp902.old 19 _ rfl rfl
                  have hx911 := hp902.old 20 _ rfl rfl
                  have hx912 := hp902.old 21 _ rfl rfl
                  have hx913 := hp902.old 22 _ rfl rfl
                  have hx914 := hp902.old 25 _ rfl rfl
                  have hx915 := hp902.old 26 _ rfl rfl
                  have hx916 := hp902.old 27 _ rfl rfl
                  have hx917 := hp902.old 28 _ rfl rfl
                  have hx918 := hp902.old 29 _ rfl rfl
                  have hx919 := hp902.old 30 _ rfl rfl
                  have hx920 := hp902.old 31 _ rfl rfl
                  have hx921 := hp902.old 32 _ rfl rfl
                  have hx922 := hp902.old 33 _ rfl rfl
                  have hx923 := hp902.old 34 _ rfl rfl
                  obtain ⟨_, hx924, rfl⟩ := hp902.new 2 44 rfl rfl
                  obtain ⟨_, hx925, rfl⟩ := hp902.new 3 45 rfl rfl
                  obtain ⟨_, hx926, rfl⟩ := hp902.new 4 46 rfl rfl
                  obtain ⟨_, hx927, rfl⟩ := hp902.new 5 47 rfl rfl
                  obtain ⟨_, hx928, rfl⟩ := hp902.new 6 48 rfl rfl
                  obtain ⟨_, hx929, rfl⟩ := hp902.new 7 49 rfl rfl
                  obtain ⟨_, hx930, rfl⟩ := hp902.new 8 50 rfl rfl
                  obtain ⟨_, hx931, rfl⟩ := hp902.new 10 6 rfl rfl
                  refine SeqR.done ?_
                  refine bn ?_
                  refine tn ?_
                  refine CW.sub (Sub.cons (d := 0) hx906 (Sub.cons (d := 1) hx907 (Sub.cons (d := 5) hx908 (Sub.cons (d := 6) hx931 (Sub.cons (d := 7) hx909 (Sub.cons (d := 19) hx910 (Sub.cons (d := 20) hx911 (Sub.cons (d := 21) hx912 (Sub.cons (d := 22) hx913 (Sub.cons (d := 25) hx914 (Sub.cons (d := 26) hx915 (Sub.cons (d := 27) hx916 (Sub.cons (d := 28) hx917 (Sub.cons (d := 29) hx918 (Sub.cons (d := 30) hx919 (Sub.cons (d := 31) hx920 (Sub.cons (d := 32) hx921 (Sub.cons (d := 33) hx922 (Sub.cons (d := 34) hx923 (Sub.cons (d := 44) hx924 (Sub.cons (d := 45) hx925 (Sub.cons (d := 46) hx926 (Sub.cons (d := 47) hx927 (Sub.cons (d := 48) hx928 (Sub.cons (d := 49) hx929 (Sub.cons (d := 50) hx930 (Sub.nil _))))))))))))))))))))))))))) ?_
                  refine CW.region ?_
                  refine SeqR.d1 rfl rfl rfl (yl_move rfl rfl ?_)
                  refine SeqR.d1 rfl rfl rfl (yl_inc rfl rfl rfl (by omega) ?_)
                  refine SeqR.d1 rfl rfl rfl (yl_assign rfl rfl ?_)
                  refine SeqR.done ?_
                  refine tn ?_
                  have hB932 : B_s_l3Bytes_1 p_s p_more k5 k711 (x712) = .cont (decide (((p_s.getD k5 0).toNat : Int) = ((p_more.getD k711 0).toNat : Int))) := by simp only [B_s_l3Bytes_1, hb20, hb710, hb743, cond_true, cond_false, loopE_done, loopE_ret]
                  have q933 := Ex.trans hf740 hE905
                  exact ⟨p_more.length - (k711 + 1), by omega, k711 + 1, decide (((p_s.getD k5 0).toNat : Int) = ((p_more.getD k711 0).toNat : Int)), rfl, hlt742, rfl, rfl, rfl, rfl, rfl, rfl, rfl, rfl, rfl, rfl, rfl, rfl, rfl, rfl, rfl, rfl, rfl, rfl, rfl, q933, (loopM.cont hlt742 hB932).symm.trans hI720⟩
            · skip
              refine CW.seq ?_
              refine CW.seq ?_
              refine CW.region ?_
              refine SeqR.d1 rfl rfl rfl (yl_move rfl rfl ?_)
              refine SeqR.d1 rfl rfl rfl (yl_move rfl rfl ?_)
              refine SeqR.d1 rfl rfl rfl (yl_slen Try.un9 (a := p_more) rfl rfl ?_)
              refine SeqR.d1 rfl rfl rfl (yl_lss rfl rfl rfl ?_)
              refine SeqR.done ?_
              refine tn ?_
              refine CW.cond_f rfl (lt_f hlt742) ?_
              refine CW.exit ?_
              refine tx ?_
              refine tx ?_
              have hL934 : loopM (B_s_l3Bytes_1 p_s p_more k5) (p_more.length - 0) 0 (decide (((p_s.getD k5 0).toNat : Int) ≤ 57)) = .done (x712) := hI720.symm.trans (loopM.stop hlt742)
              refine bx ?_
              refine tn ?_
              refine CW.seq ?_
              refine CW.region ?_
              refine SeqR.d1 rfl rfl rfl (yl_move rfl rfl ?_)
              refine SeqR.d1 rfl rfl rfl (yl_not rfl rfl ?_)
              refine SeqR.done ?_
              refine tn ?_
              refine bcase (x712) (fun hb935 => ?_) (fun hb935 => ?_)
              · skip
                refine CW.cond_f rfl (not_t hb935) ?_
                refine CW.skip ?_
                refine bn ?_
                refine tn ?_
                refine CW.region ?_
                refine SeqR.d1 rfl rfl rfl (yl_move rfl rfl ?_)
                refine SeqR.d1 rfl rfl rfl (yl_inc rfl rfl rfl (by omega) ?_)
                refine SeqR.d1 rfl rfl rfl (yl_assign rfl rfl ?_)
                refine SeqR.done ?_
                refine tn ?_
                have hB936 : B_s_l3Bytes_0 p_s p_more k5 () = .cont () := by simp only [B_s_l3Bytes_0, hb20, hb710, hb935, hL934, cond_true, cond_false, loopE_done, loopE_ret]
                exact ⟨p_s.length - (k5 + 1), by omega, k5 + 1, rfl, hlt19, rfl, rfl, rfl, hf740, (loopM.cont hlt19 hB936).symm.trans hI13⟩
              · skip
                refine CW.cond_t rfl (not_f hb935) ?_
                refine CW.seq ?_
                refine CW.region ?_
                refine SeqR.d1 rfl rfl rfl (yl_assign rfl rfl ?_)
                refine SeqR.done ?_
                refine tn ?_
                refine CW.ret ?_
                refine br ?_
                refine tr ?_
                refine tr ?_
                have hB938 : B_s_l3Bytes_0 p_s p_more k5 () = .ret false := by simp only [B_s_l3Bytes_0, hb20, hb710, hb935, hL934, cond_true, cond_false, loopE_done, loopE_ret]
                have hL937 : loopM (B_s_l3Bytes_0 p_s p_more) (p_s.length - 0) 0 () = .ret false := hI13.symm.trans (loopM.ret hlt19 hB938)
                refine br ?_
                refine tr ?_
                refine rr rfl (.cons rfl .nil) ?_
                have hM939 : (s_l3Bytes p_s p_more) = (false) := by simp only [s_l3Bytes, hb20, hb710, hb935, hL934, hL937, cond_true, cond_false, loopE_done, loopE_ret]
                rw [hM939]
                exact ⟨rfl, hf740⟩
        · have hb710p := dec_f hb710
          refine SeqR.z rfl rfl rfl rfl rfl hb710 ?_
          refine SeqR.z rfl rfl rfl rfl rfl hb710 ?_
          refine SeqR.z rfl rfl rfl rfl rfl hb710 ?_
          refine SeqR.z rfl rfl rfl rfl rfl hb710 ?_
          refine SeqR.y rfl rfl rfl rfl rfl rfl (yl_pick_f rfl rfl hb710 rfl ?_)
          refine SeqR.d1 rfl rfl rfl (yl_pick_f rfl rfl rfl rfl ?_)
          refine SeqR.d1 rfl rfl rfl (yl_assign rfl rfl ?_)
          refine SeqR.done ?_
          refine tn ?_
          refine CW.seq ?_
          refine CW.seq ?_
          refine CW.region ?_
          refine SeqR.d1 rfl rfl rfl (yl_assign rfl rfl ?_)
          refine SeqR.done ?_
          refine tn ?_
          refine CW.block ?_
          refine CW.loop (fun m942 L943 w944 => ∃ (k940 : Nat) (x941 : Bool), m942 = p_more.length - k940 ∧ k940 ≤ p_more.length ∧ lkp L943 0 = some (.string (bs (p_s))) ∧ lkp L943 1 = some (.string (bs (p_more))) ∧ lkp L943 5 = some (.int .i64 ((k5 : Int))) ∧ lkp L943 6 = some (.bool (x941)) ∧ lkp L943 7 = some (.int .i64 ((k940 : Int))) ∧ lkp L943 19 = some (undef) ∧ lkp L943 20 = some (undef) ∧ lkp L943 21 = some (undef) ∧ lkp L943 22 = some (undef) ∧ lkp L943 25 = some (.string (bs (p_s))) ∧ lkp L943 26 = some (.int .i64 ((k5 : Int))) ∧ lkp L943 27 = some (.int .u8 (((p_s.getD k5 0).toNat : Int))) ∧ lkp L943 28 = some (.bool (decide (48 ≤ ((p_s.getD k5 0).toNat : Int)))) ∧ lkp L943 29 = some (.bool (decide (48 ≤ ((p_s.getD k5 0).toNat : Int)))) ∧ lkp L943 30 = some (undef) ∧ lkp L943 31 = some (undef) ∧ lkp L943 32 = some (undef) ∧ lkp L943 33 = some (undef) ∧ lkp L943 34 = some (.bool (false)) ∧ Ex w w944 ∧ loopM (B_s_l3Bytes_1 p_s p_more k5) (p_more.length - k940) k940 (x941) = loopM (B_s_l3Bytes_1 p_s p_more k5) (p_more.length - 0) 0 (false)) (p_more.length - 0) ?_ ?_
          · exact ⟨0, false, rfl, Nat.zero_le _, rfl, rfl, rfl, rfl, rfl, rfl, rfl, rfl, rfl, rfl, rfl, rfl, rfl, rfl, rfl, rfl, rfl, rfl, rfl, hf17, rfl⟩
          · rintro m945 L946 w947 ⟨k940, x941, rfl, hk948, hl950, hl951, hl952, hl953, hl954, hl955, hl956, hl957, hl958, hl959, hl960, hl961, hl962, hl963, hl964, hl965, hl966, hl967, hl968, hf969, hI949⟩
            refine CW.sub (Sub.cons hl950 (Sub.cons hl951 (Sub.cons hl952 (Sub.cons hl953 (Sub.cons hl954 (Sub.cons hl955 (Sub.cons hl956 (Sub.cons hl957 (Sub.cons hl958 (Sub.cons hl959 (Sub.cons hl960 (Sub.cons hl961 (Sub.cons hl962 (Sub.cons hl963 (Sub.cons hl964 (Sub.cons hl965 (Sub.cons hl966 (Sub.cons hl967 (Sub.cons hl968 (Sub.nil _)))))))))))))))))))) ?_
            have hf969z := Ex.size hf969
            have hbg970 : p_more.length ≤ 1073741824 := o2
            rcases Nat.lt_or_ge k940 p_more.length with hlt971 | hlt971
            · skip
              refine CW.seq ?_
              refine CW.seq ?_
              refine CW.region ?_
              refine SeqR.d1 rfl rfl rfl (yl_move rfl rfl ?_)
              refine SeqR.d1 rfl rfl rfl (yl_move rfl rfl ?_)
              refine SeqR.d1 rfl rfl rfl (yl_slen Try.un9 (a := p_more) rfl rfl ?_)
              refine SeqR.d1 rfl rfl rfl (yl_lss rfl rfl rfl ?_)
              refine SeqR.done ?_
              refine tn ?_
              refine CW.cond_t rfl (lt_t hlt971) ?_
              refine CW.skip ?_
              refine tn ?_
              refine CW.seq ?_
              refine CW.block ?_
              refine bcase (x941) (fun hb972 => ?_) (fun hb972 => ?_)
              · skip
                refine CW.drawsI 11 (vgetI [DetI (.bool (x941)), DetI (.bool (x941)), DetI (undef), DetI (undef), DetI (undef), DetI (undef), DetI (undef), DetI (undef), DetI (undef), DetI (.bool (true)), DetI (.bool (true))]) Try.follows rfl rfl rfl rfl rfl rfl (vgetI_stable ⟨StableI.det _, StableI.det _, StableI.det _, StableI.det _, StableI.det _, StableI.det _, StableI.det _, StableI.det _, StableI.det _, StableI.det _, StableI.det _, trivial⟩) ⟨?_, ?_, ?_, ?_, ?_, ?_, ?_, ?_, ?_, ?_, ?_, trivial⟩ ?_
                · intro L973 w974 hi975
                  have hE976 := hi975.ex
                  have hE976z := Ex.size hE976
                  have hx977 := hi975.old 6 _ rfl rfl
                  exact OpR.op' rfl (Yl.sameI (yl_move rfl hx977 ⟨fun _ _ => rfl, rfl⟩))
                · intro L978 w979 hi980
                  have hE981 := hi980.ex
                  have hE981z := Ex.size hE981
                  obtain ⟨_, _, _, hx982, -, -, -, rfl⟩ := hi980.dep 0 42 rfl rfl
                  exact OpR.op' rfl (Yl.sameI (yl_move rfl hx982 ⟨fun _ _ => rfl, rfl⟩))
                · intro L983 w984 hi985
                  have hE986 := hi985.ex
                  have hE986z := Ex.size hE986
                  obtain ⟨_, _, _, hx987, -, -, -, rfl⟩ := hi985.dep 1 43 rfl rfl
                  exact OpR.skip rfl rfl hx987 hb972 ⟨rfl, Ex.refl _⟩
                · intro L988 w989 hi990
                  have hE991 := hi990.ex
                  have hE991z := Ex.size hE991
                  obtain ⟨_, _, _, hx992, -, -, -, rfl⟩ := hi990.dep 1 43 rfl rfl
                  exact OpR.skip rfl rfl hx992 hb972 ⟨rfl, Ex.refl _⟩
                · intro L993 w994 hi995
                  have hE996 := hi995.ex
                  have hE996z := Ex.size hE996
                  obtain ⟨_, _, _, hx997, -, -, -, rfl⟩ := hi995.dep 1 43 rfl rfl
                  exact OpR.skip rfl rfl hx997 hb972 ⟨rfl, Ex.refl _⟩
                · intro L998 w999 hi1000
                  have hE1001 := hi1000.ex
                  have hE1001z := Ex.size hE1001
                  obtain ⟨_, _, _, hx1002, -, -, -, rfl⟩ := hi1000.dep 1 43 rfl rfl
                  exact OpR.skip rfl rfl hx1002 hb972 ⟨rfl, Ex.refl _⟩
                · intro L1003 w1004 hi1005
                  have hE1006 := hi1005.ex
                  have hE1006z := Ex.size hE1006
                  obtain ⟨_, _, _, hx1007, -, -, -, rfl⟩ := hi1005.dep 1 43 rfl rfl
                  exact OpR.skip rfl rfl hx1007 hb972 ⟨rfl, Ex.refl _⟩
                · intro L1008 w1009 hi1010
                  have hE1011 := hi1010.ex
                  have hE1011z := Ex.size hE1011
                  obtain ⟨_, _, _, hx1012, -, -, -, rfl⟩ := hi1010.dep 1 43 rfl rfl
                  exact OpR.skip rfl rfl hx1012 hb972 ⟨rfl, Ex.refl _⟩
                · intro L1013 w1014 hi1015
                  have hE1016 := hi1015.ex
                  have hE1016z := Ex.size hE1016
                  obtain ⟨_, _, _, hx1017, -, -, -, rfl⟩ := hi1015.dep 1 43 rfl rfl
                  exact OpR.skip rfl rfl hx1017 hb972 ⟨rfl, Ex.refl _⟩
                · intro L1018 w1019 hi1020
                  have hE1021 := hi1020.ex
                  have hE1021z := Ex.size hE1021
                  obtain ⟨_, _, _, hx1022, -, -, -, rfl⟩ := hi1020.dep 8 50 rfl rfl
                  obtain ⟨_, _, _, hx1023, -, -, -, rfl⟩ := hi1020.dep 1 43 rfl rfl
                  exact OpR.op' rfl (Yl.sameI (yl_pick_t rfl hx1023 hb972 rfl ⟨fun _ _ => rfl, rfl⟩))
                · intro L1024 w1025 hi1026
                  have hE1027 := hi1026.ex
                  have hE1027z := Ex.size hE1027
                  obtain ⟨_, _, _, hx1028, -, -, -, rfl⟩ := hi1026.dep 9 51 rfl rfl
                  exact OpR.op' rfl (Yl.sameI (yl_assign rfl hx1028 ⟨fun _ _ => rfl, rfl⟩))
                · intro fl1032 fh1033 L1029 w1030 hp1031
                  have hE1034 := hp1031.ex
                  have hE1034z := Ex.size hE1034
                  have hx1035 := hp1031.old 0 _ rfl rfl
                  have hx1036 := hp1031.old 1 _ rfl rfl
                  have hx1037 := hp1031.old 5 _ rfl rfl
                  have hx1038 := hp1031.old 7 _ rfl rfl
                  have hx1039 := hp1031.old 19 _ rfl rfl
                  have hx1040 := hp1031.old 20 _ rfl rfl
                  have hx1041 := hp1031.old 21 _ rfl rfl
                  have hx1042 := hp1031.old 22 _ rfl rfl
                  have hx1043 := hp1031.old 25 _ rfl rfl
                  have hx1044 := hp1031.old 26 _ rfl rfl
                  have hx1045 := hp1031.old 27 _ rfl rfl
                  have hx1046 := hp1031.old 28 _ rfl rfl
                  have hx1047 := hp1031.old 29 _ rfl rfl
                  have hx1048 := hp1031.old 30 _ rfl rfl
                  have hx1049 := hp1031.old 31 _ rfl rfl
                  have hx1050 := hp1031.old 32 _ rfl rfl
                  have hx1051 := hp1031.old 33 _ rfl rfl
                  have hx1052 := hp1031.old 34 _ rfl rfl
                  obtain ⟨_, hx1053, rfl⟩ := hp1031.new 2 44 rfl rfl
                  obtain ⟨_, hx1054, rfl⟩ := hp1031.new 3 45 rfl rfl
                  obtain ⟨_, hx1055, rfl⟩ := hp1031.new 4 46 rfl rfl
                  obtain ⟨_, hx1056, rfl⟩ := hp1031.new 5 47 rfl rfl
                  obtain ⟨_, hx1057, rfl⟩ := hp1031.new 6 48 rfl rfl
                  obtain ⟨_, hx1058, rfl⟩ := hp1031.new 7 49 rfl rfl
                  obtain ⟨_, hx1059, rfl⟩ := hp1031.new 8 50 rfl rfl
                  obtain ⟨_, hx1060, rfl⟩ := hp1031.new 10 6 rfl rfl
                  refine SeqR.done ?_
                  refine bn ?_
                  refine tn ?_
                  refine CW.sub (Sub.cons (d := 0) hx1035 (Sub.cons (d := 1) hx1036 (Sub.cons (d := 5) hx1037 (Sub.cons (d := 6) hx1060 (Sub.cons (d := 7) hx1038 (Sub.cons (d := 19) hx1039 (Sub.cons (d := 20) hx1040 (Sub.cons (d := 21) hx1041 (Sub.cons (d := 22) hx1042 (Sub.cons (d := 25) hx1043 (Sub.cons (d := 26) hx1044 (Sub.cons (d := 27) hx1045 (Sub.cons (d := 28) hx1046 (Sub.cons (d := 29) hx1047 (Sub.cons (d := 30) hx1048 (Sub.cons (d := 31) hx1049 (Sub.cons (d := 32) hx1050 (Sub.cons (d := 33) hx1051 (Sub.cons (d := 34) hx1052 (Sub.cons (d := 44) hx1053 (Sub.cons (d := 45) hx1054 (Sub.cons (d := 46) hx1055 (Sub.cons (d := 47) hx1056 (Sub.cons (d := 48) hx1057 (Sub.cons (d := 49) hx1058 (Sub.cons (d := 50) hx1059 (Sub.nil _))))))))))))))))))))))))))) ?_
                  refine CW.region ?_
                  refine SeqR.d1 rfl rfl rfl (yl_move rfl rfl ?_)
                  refine SeqR.d1 rfl rfl rfl (yl_inc rfl rfl rfl (by omega) ?_)
                  refine SeqR.d1 rfl rfl rfl (yl_assign rfl rfl ?_)
                  refine SeqR.done ?_
                  refine tn ?_
                  have hB1061 : B_s_l3Bytes_1 p_s p_more k5 k940 (x941) = .cont (true) := by simp only [B_s_l3Bytes_1, hb20, hb710, hb972, cond_true, cond_false, loopE_done, loopE_ret]
                  have q1062 := Ex.trans hf969 hE1034
                  exact ⟨p_more.length - (k940 + 1), by omega, k940 + 1, true, rfl, hlt971, rfl, rfl, rfl, rfl, rfl, rfl, rfl, rfl, rfl, rfl, rfl, rfl, rfl, rfl, rfl, rfl, rfl, rfl, rfl, q1062, (loopM.cont hlt971 hB1061).symm.trans hI949⟩
              · skip
                refine CW.drawsI 11 (vgetI [DetI (.bool (x941)), DetI (.bool (x941)), DetI (.string (bs (p_s))), DetI (.int .i64 ((k5 : Int))), DetI (.int .u8 (((p_s.getD k5 0).toNat : Int))), DetI (.string (bs (p_more))), DetI (.int .i64 ((k940 : Int))), DetI (.int .u8 (((p_more.getD k940 0).toNat : Int))), DetI (.bool (decide (((p_s.getD k5 0).toNat : Int) = ((p_more.getD k940 0).toNat : Int)))), DetI (.bool (decide (((p_s.getD k5 0).toNat : Int) = ((p_more.getD k940 0).toNat : Int)))), DetI (.bool (decide (((p_s.getD k5 0).toNat : Int) = ((p_more.getD k940 0).toNat : Int))))]) Try.follows rfl rfl rfl rfl rfl rfl (vgetI_stable ⟨StableI.det _, StableI.det _, StableI.det _, StableI.det _, StableI.det _, StableI.det _, StableI.det _, StableI.det _, StableI.det _, StableI.det _, StableI.det _, trivial⟩) ⟨?_, ?_, ?_, ?_, ?_, ?_, ?_, ?_, ?_, ?_, ?_, trivial⟩ ?_
                · intro L1063 w1064 hi1065
                  have hE1066 := hi1065.ex
                  have hE1066z := Ex.size hE1066
                  have hx1067 := hi1065.old 6 _ rfl rfl
                  exact OpR.op' rfl (Yl.sameI (yl_move rfl hx1067 ⟨fun _ _ => rfl, rfl⟩))
                · intro L1068 w1069 hi1070
                  have hE1071 := hi1070.ex
                  have hE1071z := Ex.size hE1071
                  obtain ⟨_, _, _, hx1072, -, -, -, rfl⟩ := hi1070.dep 0 42 rfl rfl
                  exact OpR.op' rfl (Yl.sameI (yl_move rfl hx1072 ⟨fun _ _ => rfl, rfl⟩))
                · intro L1073 w1074 hi1075
                  have hE1076 := hi1075.ex
                  have hE1076z := Ex.size hE1076
                  obtain ⟨_, _, _, hx1077, -, -, -, rfl⟩ := hi1075.dep 1 43 rfl rfl
                  have hx1078 := hi1075.old 0 _ rfl rfl
                  exact OpR.want rfl rfl hx1077 hb972 (Yl.sameI (yl_move rfl hx1078 ⟨fun _ _ => rfl, rfl⟩))
                · intro L1079 w1080 hi1081
                  have hE1082 := hi1081.ex
                  have hE1082z := Ex.size hE1082
                  obtain ⟨_, _, _, hx1083, -, -, -, rfl⟩ := hi1081.dep 1 43 rfl rfl
                  have hx1084 := hi1081.old 5 _ rfl rfl
                  exact OpR.want rfl rfl hx1083 hb972 (Yl.sameI (yl_move rfl hx1084 ⟨fun _ _ => rfl, rfl⟩))
                · intro L1085 w1086 hi1087
                  have hE1088 := hi1087.ex
                  have hE1088z := Ex.size hE1088
                  obtain ⟨_, _, _, hx1089, -, -, -, rfl⟩ := hi1087.dep 1 43 rfl rfl
                  obtain ⟨_, _, _, hx1090, -, -, -, rfl⟩ := hi1087.dep 2 44 rfl rfl
                  obtain ⟨_, _, _, hx1091, -, -, -, rfl⟩ := hi1087.dep 3 45 rfl rfl
                  exact OpR.want rfl rfl hx1089 hb972 (Yl.sameI (yl_sindexN Try.un9 (a := p_s) rfl hx1090 hx1091 (by first | omega | assumption | (simp only [IntKind.wrap_i64] at *; omega)) ⟨fun _ _ => rfl, rfl⟩))
                · intro L1092 w1093 hi1094
                  have hE1095 := hi1094.ex
                  have hE1095z := Ex.size hE1095
                  obtain ⟨_, _, _, hx1096, -, -, -, rfl⟩ := hi1094.dep 1 43 rfl rfl
                  have hx1097 := hi1094.old 1 _ rfl rfl
                  exact OpR.want rfl rfl hx1096 hb972 (Yl.sameI (yl_move rfl hx1097 ⟨fun _ _ => rfl, rfl⟩))
                · intro L1098 w1099 hi1100
                  have hE1101 := hi1100.ex
                  have hE1101z := Ex.size hE1101
                  obtain ⟨_, _, _, hx1102, -, -, -, rfl⟩ := hi1100.dep 1 43 rfl rfl
                  have hx1103 := hi1100.old 7 _ rfl rfl
                  exact OpR.want rfl rfl hx1102 hb972 (Yl.sameI (yl_move rfl hx1103 ⟨fun _ _ => rfl, rfl⟩))
                · intro L1104 w1105 hi1106
                  have hE1107 := hi1106.ex
                  have hE1107z := Ex.size hE1107
                  obtain ⟨_, _, _, hx1108, -, -, -, rfl⟩ := hi1106.dep 1 43 rfl rfl
                  obtain ⟨_, _, _, hx1109, -, -, -, rfl⟩ := hi1106.dep 5 47 rfl rfl
                  obtain ⟨_, _, _, hx1110, -, -, -, rfl⟩ := hi1106.dep 6 48 rfl rfl
                  exact OpR.want rfl rfl hx1108 hb972 (Yl.sameI (yl_sindexN Try.un9 (a := p_more) rfl hx1109 hx1110 (by first | omega | assumption | (simp only [IntKind.wrap_i64] at *; omega)) ⟨fun _ _ => rfl, rfl⟩))
                · intro L1111 w1112 hi1113
                  have hE1114 := hi1113.ex
                  have hE1114z := Ex.size hE1114
                  obtain ⟨_, _, _, hx1115, -, -, -, rfl⟩ := hi1113.dep 1 43 rfl rfl
                  obtain ⟨_, _, _, hx1116, -, -, -, rfl⟩ := hi1113.dep 4 46 rfl rfl
                  obtain ⟨_, _, _, hx1117, -, -, -, rfl⟩ := hi1113.dep 7 49 rfl rfl
                  exact OpR.want rfl rfl hx1115 hb972 (Yl.sameI (yl_eql rfl hx1116 hx1117 ⟨fun _ _ => rfl, rfl⟩))
                · intro L1118 w1119 hi1120
                  have hE1121 := hi1120.ex
                  have hE1121z := Ex.size hE1121
                  obtain ⟨_, _, _, hx1122, -, -, -, rfl⟩ := hi1120.dep 8 50 rfl rfl
                  obtain ⟨_, _, _, hx1123, -, -, -, rfl⟩ := hi1120.dep 1 43 rfl rfl
                  exact OpR.op' rfl (Yl.sameI (yl_pick_f rfl hx1123 hb972 hx1122 ⟨fun _ _ => rfl, rfl⟩))
                · intro L1124 w1125 hi1126
                  have hE1127 := hi1126.ex
                  have hE1127z := Ex.size hE1127
                  obtain ⟨_, _, _, hx1128, -, -, -, rfl⟩ := hi1126.dep 9 51 rfl rfl
                  exact OpR.op' rfl (Yl.sameI (yl_assign rfl hx1128 ⟨fun _ _ => rfl, rfl⟩))
                · intro fl1132 fh1133 L1129 w1130 hp1131
                  have hE1134 := hp1131.ex
                  have hE1134z := Ex.size hE1134
                  have hx1135 := hp1131.old 0 _ rfl rfl
                  have hx1136 := hp1131.old 1 _ rfl rfl
                  have hx1137 := hp1131.old 5 _ rfl rfl
                  have hx1138 := hp1131.old 7 _ rfl rfl
                  have hx1139 := hp1131.old 19 _ rfl rfl
                  have hx1140 := hp1131.old 20 _ rfl rfl
                  have hx1141 := hp1131.old 21 _ rfl rfl
                  have hx1142 := hp1131.old 22 _ rfl rfl
                  have hx1143 := hp1131.old 25 _ rfl rfl
                  have hx1144 := hp1131.old 26 _ rfl rfl
                  have hx1145 := hp1131.old 27 _ rfl rfl
                  have hx1146 := hp1131.old 28 _ rfl rfl
                  have hx1147 := hp1131.old 29 _ rfl rfl
                  have hx1148 := hp1131.old 30 _ rfl rfl
                  have hx1149 := hp1131.old 31 _ rfl rfl
                  have hx1150 := hp1131.old 32 _ rfl rfl
                  have hx1151 := hp1131.old 33 _ rfl rfl
                  have hx1152 := hp1131.old 34 _ rfl rfl
                  obtain ⟨_, hx1153, rfl⟩ := hp1131.new 2 44 rfl rfl
                  obtain ⟨_, hx1154, rfl⟩ := hp1131.new 3 45 rfl rfl
                  obtain ⟨_, hx1155, rfl⟩ := hp1131.new 4 46 rfl rfl
                  obtain ⟨_, hx1156, rfl⟩ := hp1131.new 5 47 rfl rfl
                  obtain ⟨_, hx1157, rfl⟩ := hp1131.new 6 48 rfl rfl
                  obtain ⟨_, hx1158, rfl⟩ := hp1131.new 7 49 rfl rfl
                  obtain ⟨_, hx1159, rfl⟩ := hp1131.new 8 50 rfl rfl
                  obtain ⟨_, hx1160, rfl⟩ := hp1131.new 10 6 rfl rfl
                  refine SeqR.done ?_
                  refine bn ?_
                  refine tn ?_
                  refine CW.sub (Sub.cons (d := 0) hx1135 (Sub.cons (d := 1) hx1136 (Sub.cons (d := 5) hx1137 (Sub.cons (d := 6) hx1160 (Sub.cons (d := 7) hx1138 (Sub.cons (d := 19) hx1139 (Sub.cons (d := 20) hx1140 (Sub.cons (d := 21) hx1141 (Sub.cons (d := 22) hx1142 (Sub.cons (d := 25) hx1143 (Sub.cons (d := 26) hx1144 (Sub.cons (d := 27) hx1145 (Sub.cons (d := 28) hx1146 (Sub.cons (d := 29) hx1147 (Sub.cons (d := 30) hx1148 (Sub.cons (d := 31) hx1149 (Sub.cons (d := 32) hx1150 (Sub.cons (d := 33) hx1151 (Sub.cons (d := 34) hx1152 (Sub.cons (d := 44) hx1153 (Sub.cons (d := 45) hx1154 (Sub.cons (d := 46) hx1155 (Sub.cons (d := 47) hx1156 (Sub.cons (d := 48) hx1157 (Sub.cons (d := 49) hx1158 (Sub.cons (d := 50) hx1159 (Sub.nil _))))))))))))))))))))))))))) ?_
                  refine CW.region ?_
                  refine SeqR.d1 rfl rfl rfl (yl_move rfl rfl ?_)
                  refine SeqR.d1 rfl rfl rfl (yl_inc rfl rfl rfl (by omega) ?_)
                  refine SeqR.d1 rfl rfl rfl (yl_assign rfl rfl ?_)
                  refine SeqR.done ?_
                  refine tn ?_
                  have hB1161 : B_s_l3Bytes_1 p_s p_more k5 k940 (x941) = .cont (decide (((p_s.getD k5 0).toNat : Int) = ((p_more.getD k940 0).toNat : Int))) := by simp only [B_s_l3Bytes_1, hb20, hb710, hb972, cond_true, cond_false, loopE_done, loopE_ret]
                  have q1162 := Ex.trans hf969 hE1134
                  exact ⟨p_more.length - (k940 + 1), by omega, k940 + 1, decide (((p_s.getD k5 0).toNat : Int) = ((p_more.getD k940 0).toNat : Int)), rfl, hlt971, rfl, rfl, rfl, rfl, rfl, rfl, rfl, rfl, rfl, rfl, rfl, rfl, rfl, rfl, rfl, rfl, rfl, rfl, rfl, q1162, (loopM.cont hlt971 hB1161).symm.trans hI949⟩
            · skip
              refine CW.seq ?_
              refine CW.seq ?_
              refine CW.region ?_
              refine SeqR.d1 rfl rfl rfl (yl_move rfl rfl ?_)
              refine SeqR.d1 rfl rfl rfl (yl_move rfl rfl ?_)
              refine SeqR.d1 rfl rfl rfl (yl_slen Try.un9 (a := p_more) rfl rfl ?_)
              refine SeqR.d1 rfl rfl rfl (yl_lss rfl rfl rfl ?_)
              refine SeqR.done ?_
              refine tn ?_
              refine CW.cond_f rfl (lt_f hlt971) ?_
              refine CW.exit ?_
              refine tx ?_
              refine tx ?_
              have hL1163 : loopM (B_s_l3Bytes_1 p_s p_more k5) (p_more.length - 0) 0 (false) = .done (x941) := hI949.symm.trans (loopM.stop hlt971)
              refine bx ?_
              refine tn ?_
              refine CW.seq ?_
              refine CW.region ?_
              refine SeqR.d1 rfl rfl rfl (yl_move rfl rfl ?_)
              refine SeqR.d1 rfl rfl rfl (yl_not rfl rfl ?_)
              refine SeqR.done ?_
              refine tn ?_
              refine bcase (x941) (fun hb1164 => ?_) (fun hb1164 => ?_)
              · skip
                refine CW.cond_f rfl (not_t hb1164) ?_
                refine CW.skip ?_
                refine bn ?_
                refine tn ?_
                refine CW.region ?_
                refine SeqR.d1 rfl rfl rfl (yl_move rfl rfl ?_)
                refine SeqR.d1 rfl rfl rfl (yl_inc rfl rfl rfl (by omega) ?_)
                refine SeqR.d1 rfl rfl rfl (yl_assign rfl rfl ?_)
                refine SeqR.done ?_
                refine tn ?_
                have hB1165 : B_s_l3Bytes_0 p_s p_more k5 () = .cont () := by simp only [B_s_l3Bytes_0, hb20, hb710, hb1164, hL1163, cond_true, cond_false, loopE_done, loopE_ret]
                exact ⟨p_s.length - (k5 + 1), by omega, k5 + 1, rfl, hlt19, rfl, rfl, rfl, hf969, (loopM.cont hlt19 hB1165).symm.trans hI13⟩
              · skip
                refine CW.cond_t rfl (not_f hb1164) ?_
                refine CW.seq ?_
                refine CW.region ?_
                refine SeqR.d1 rfl rfl rfl (yl_assign rfl rfl ?_)
                refine SeqR.done ?_
                refine tn ?_
                refine CW.ret ?_
                refine br ?_
                refine tr ?_
                refine tr ?_
                have hB1167 : B_s_l3Bytes_0 p_s p_more k5 () = .ret false := by simp only [B_s_l3Bytes_0, hb20, hb710, hb1164, hL1163, cond_true, cond_false, loopE_done, loopE_ret]
                have hL1166 : loopM (B_s_l3Bytes_0 p_s p_more) (p_s.length - 0) 0 () = .ret false := hI13.symm.trans (loopM.ret hlt19 hB1167)
                refine br ?_
                refine tr ?_
                refine rr rfl (.cons rfl .nil) ?_
                have hM1168 : (s_l3Bytes p_s p_more) = (false) := by simp only [s_l3Bytes, hb20, hb710, hb1164, hL1163, hL1166, cond_true, cond_false, loopE_done, loopE_ret]
                rw [hM1168]
                exact ⟨rfl, hf969⟩
    · skip
      refine CW.seq ?_
      refine CW.seq ?_
      refine CW.region ?_
      refine SeqR.d1 rfl rfl rfl (yl_move rfl rfl ?_)
      refine SeqR.d1 rfl rfl rfl (yl_move rfl rfl ?_)
      refine SeqR.d1 rfl rfl rfl (yl_slen Try.un9 (a := p_s) rfl rfl ?_)
      refine SeqR.d1 rfl rfl rfl (yl_lss rfl rfl rfl ?_)
      refine SeqR.done ?_
      refine tn ?_
      refine CW.cond_f rfl (lt_f hlt19) ?_
      refine CW.exit ?_
      refine tx ?_
      refine tx ?_
      have hL1169 : loopM (B_s_l3Bytes_0 p_s p_more) (p_s.length - 0) 0 () = .done () := hI13.symm.trans (loopM.stop hlt19)
      refine bx ?_
      refine tn ?_
      refine CW.seq ?_
      refine CW.region ?_
      refine SeqR.d1 rfl rfl rfl (yl_assign rfl rfl ?_)
      refine SeqR.done ?_
      refine tn ?_
      refine CW.ret ?_
      refine rr rfl (.cons rfl .nil) ?_
      have hM1170 : (s_l3Bytes p_s p_more) = (true) := by simp only [s_l3Bytes, hL1169, cond_true, cond_false, loopE_done, loopE_ret]
      rw [hM1170]
      exact ⟨rfl, hf17⟩
set_option maxRecDepth 100000 in
set_option maxHeartbeats 2000000 in
theorem c_s_l3Key {w : World} (p_s : Str) (o1 : okS p_s) : Cal Try.prog 54 #[.string (bs (p_s))] w fun v w' => v = .bool ((s_l3Key p_s)) ∧ Ex w w' := by
  have hol2 : p_s.length ≤ 1073741824 := o1
  refine Cal.of (vs := [.string (bs (p_s))]) Try.func54 rfl Try.ntmps54 rfl ?_
  refine CW.seq ?_
  refine CW.region ?_
  refine SeqR.d1 rfl rfl rfl (yl_assign rfl rfl ?_)
  refine SeqR.done ?_
  refine tn ?_
  refine CW.seq ?_
  refine CW.region ?_
  refine SeqR.d1 rfl rfl rfl (yl_move rfl rfl ?_)
  refine SeqR.d1 rfl rfl rfl (yl_slen Try.un9 (a := p_s) rfl rfl ?_)
  refine SeqR.d1 rfl rfl rfl (yl_call Try.en50 rfl (opvs_cons rfl (opvs_cons rfl (opvs_cons rfl opvs_nil))) (Cal.mono (c_s_l1In (p_s.length : Int) 1 12) ?_))
  rintro v4 w3 ⟨rfl, hE5⟩
  have hE5z := Ex.size hE5
  refine SeqR.d1 rfl rfl rfl (yl_move rfl rfl ?_)
  refine bcase (s_l1In (p_s.length : Int) 1 12) (fun hb6 => ?_) (fun hb6 => ?_)
  · have hb6p := f_l1In hb6
    refine SeqR.y rfl rfl rfl rfl rfl hb6 (yl_move rfl rfl ?_)
    refine SeqR.y rfl rfl rfl rfl rfl hb6 (yl_call Try.en99 rfl (opvs_cons rfl (opvs_cons rfl opvs_nil)) (Cal.mono (c_s_l3Bytes p_s ([46, 47] : Str) o1 (by unfold okS; decide)) ?_))
    rintro v8 w7 ⟨rfl, hE9⟩
    have hE9z := Ex.size hE9
    refine SeqR.d1 rfl rfl rfl (yl_pick_t rfl rfl hb6 rfl ?_)
    refine SeqR.d1 rfl rfl rfl (yl_assign rfl rfl ?_)
    refine SeqR.done ?_
    refine tn ?_
    refine CW.ret ?_
    refine rr rfl (.cons rfl .nil) ?_
    have hM10 : (s_l3Key p_s) = ((s_l3Bytes p_s ([46, 47] : Str))) := by simp only [s_l3Key, hb6, cond_true, cond_false, loopE_done, loopE_ret]
    rw [hM10]
    have q11 := Ex.trans (Ex.refl w) hE5
    have q12 := Ex.trans q11 hE9
    exact ⟨rfl, q12⟩
  · skip
    refine SeqR.z rfl rfl rfl rfl rfl hb6 ?_
    refine SeqR.z rfl rfl rfl rfl rfl hb6 ?_
    refine SeqR.d1 rfl rfl rfl (yl_pick_f rfl rfl hb6 rfl ?_)
    refine SeqR.d1 rfl rfl rfl (yl_assign rfl rfl ?_)
    refine SeqR.done ?_
    refine tn ?_
    refine CW.ret ?_
    refine rr rfl (.cons rfl .nil) ?_
    have hM13 : (s_l3Key p_s) = (false) := by simp only [s_l3Key, hb6, cond_true, cond_false, loopE_done, loopE_ret]
    rw [hM13]
    have q14 := Ex.trans (Ex.refl w) hE5
    exact ⟨rfl, q14⟩
set_option maxRecDepth 100000 in
set_option maxHeartbeats 2000000 in
theorem c_s_l3Val {w : World} (p_s : Str) (o1 : okS p_s) : Cal Try.prog 138 #[.string (bs (p_s))] w fun v w' => v = .bool ((s_l3Val p_s)) ∧ Ex w w' := by
  have hol2 : p_s.length ≤ 1073741824 := o1
  refine Cal.of (vs := [.string (bs (p_s))]) Try.func138 rfl Try.ntmps138 rfl ?_
  refine CW.seq ?_
  refine CW.region ?_
  refine SeqR.d1 rfl rfl rfl (yl_assign rfl rfl ?_)
  refine SeqR.done ?_
  refine tn ?_
  refine CW.seq ?_
  refine CW.region ?_
  refine SeqR.d1 rfl rfl rfl (yl_move rfl rfl ?_)
  refine SeqR.d1 rfl rfl rfl (yl_slen Try.un9 (a := p_s) rfl rfl ?_)
  refine SeqR.d1 rfl rfl rfl (yl_leq rfl rfl rfl ?_)
  refine SeqR.d1 rfl rfl rfl (yl_move rfl rfl ?_)
  refine bcase (decide ((p_s.length : Int) ≤ 24)) (fun hb3 => ?_) (fun hb3 => ?_)
  · have hb3p := dec_t hb3
    refine SeqR.y rfl rfl rfl rfl rfl hb3 (yl_move rfl rfl ?_)
    refine SeqR.y rfl rfl rfl rfl rfl hb3 (yl_call Try.en99 rfl (opvs_cons rfl (opvs_cons rfl opvs_nil)) (Cal.mono (c_s_l3Bytes p_s ([46, 45, 44, 95] : Str) o1 (by unfold okS; decide)) ?_))
    rintro v5 w4 ⟨rfl, hE6⟩
    have hE6z := Ex.size hE6
    refine SeqR.d1 rfl rfl rfl (yl_pick_t rfl rfl hb3 rfl ?_)
    refine SeqR.d1 rfl rfl rfl (yl_assign rfl rfl ?_)
    refine SeqR.done ?_
    refine tn ?_
    refine CW.ret ?_
    refine rr rfl (.cons rfl .nil) ?_
    have hM7 : (s_l3Val p_s) = ((s_l3Bytes p_s ([46, 45, 44, 95] : Str))) := by simp only [s_l3Val, hb3, cond_true, cond_false, loopE_done, loopE_ret]
    rw [hM7]
    have q8 := Ex.trans (Ex.refl w) hE6
    exact ⟨rfl, q8⟩
  · have hb3p := dec_f hb3
    refine SeqR.z rfl rfl rfl rfl rfl hb3 ?_
    refine SeqR.z rfl rfl rfl rfl rfl hb3 ?_
    refine SeqR.d1 rfl rfl rfl (yl_pick_f rfl rfl hb3 rfl ?_)
    refine SeqR.d1 rfl rfl rfl (yl_assign rfl rfl ?_)
    refine SeqR.done ?_
    refine tn ?_
    refine CW.ret ?_
    refine rr rfl (.cons rfl .nil) ?_
    have hM9 : (s_l3Val p_s) = (false) := by simp only [s_l3Val, hb3, cond_true, cond_false, loopE_done, loopE_ret]
    rw [hM9]
    exact ⟨rfl, (Ex.refl w)⟩
set_option maxRecDepth 100000 in
set_option maxHeartbeats 2000000 in
theorem c_s_l3Write {w : World} (p_key : Str) (p_val : Str) (p_gone : Bool) (o1 : okS p_key) (o2 : okS p_val) : Cal Try.prog 128 #[.string (bs (p_key)), .string (bs (p_val)), .bool (p_gone)] w fun v w' => v = .bool ((s_l3Write p_key p_val p_gone)) ∧ Ex w w' := by
  have hol3 : p_key.length ≤ 1073741824 := o1
  have hol4 : p_val.length ≤ 1073741824 := o2
  refine Cal.of (vs := [.string (bs (p_key)), .string (bs (p_val)), .bool (p_gone)]) Try.func128 rfl Try.ntmps128 rfl ?_
  refine CW.seq ?_
  refine CW.region ?_
  refine SeqR.d1 rfl rfl rfl (yl_assign rfl rfl ?_)
  refine SeqR.done ?_
  refine tn ?_
  refine CW.seq ?_
  refine CW.region ?_
  refine SeqR.d1 rfl rfl rfl (yl_move rfl rfl ?_)
  refine SeqR.d1 rfl rfl rfl (yl_call Try.en54 rfl (opvs_cons rfl opvs_nil) (Cal.mono (c_s_l3Key p_key o1) ?_))
  rintro v6 w5 ⟨rfl, hE7⟩
  have hE7z := Ex.size hE7
  refine SeqR.d1 rfl rfl rfl (yl_move rfl rfl ?_)
  refine bcase (s_l3Key p_key) (fun hb8 => ?_) (fun hb8 => ?_)
  · skip
    refine SeqR.y rfl rfl rfl rfl rfl hb8 (yl_move rfl rfl ?_)
    refine SeqR.y rfl rfl rfl rfl rfl hb8 (yl_call Try.en138 rfl (opvs_cons rfl opvs_nil) (Cal.mono (c_s_l3Val p_val o2) ?_))
    rintro v10 w9 ⟨rfl, hE11⟩
    have hE11z := Ex.size hE11
    refine SeqR.d1 rfl rfl rfl (yl_pick_t rfl rfl hb8 rfl ?_)
    refine SeqR.d1 rfl rfl rfl (yl_move rfl rfl ?_)
    refine bcase (s_l3Val p_val) (fun hb12 => ?_) (fun hb12 => ?_)
    · skip
      refine SeqR.y rfl rfl rfl rfl rfl hb12 (yl_move rfl rfl ?_)
      refine SeqR.y rfl rfl rfl rfl rfl hb12 (yl_not rfl rfl ?_)
      refine SeqR.y rfl rfl rfl rfl rfl hb12 (yl_move rfl rfl ?_)
      refine bcase (p_gone) (fun hb13 => ?_) (fun hb13 => ?_)
      · skip
        refine SeqR.y rfl rfl rfl rfl rfl (not_t hb13) (yl_move rfl rfl ?_)
        refine SeqR.y rfl rfl rfl rfl rfl (not_t hb13) (yl_seql (a := p_val) (b := ([] : Str)) rfl rfl rfl ?_)
        refine SeqR.y rfl rfl rfl rfl rfl hb12 (yl_pick_f rfl rfl (not_t hb13) rfl ?_)
        refine SeqR.d1 rfl rfl rfl (yl_pick_t rfl rfl hb12 rfl ?_)
        refine SeqR.d1 rfl rfl rfl (yl_assign rfl rfl ?_)
        refine SeqR.done ?_
        refine tn ?_
        refine CW.ret ?_
        refine rr rfl (.cons rfl .nil) ?_
        have hM14 : (s_l3Write p_key p_val p_gone) = (p_val == ([] : Str)) := by simp only [s_l3Write, hb8, hb12, hb13, cond_true, cond_false, loopE_done, loopE_ret]
        rw [hM14]
        have q15 := Ex.trans (Ex.refl w) hE7
        have q16 := Ex.trans q15 hE11
        exact ⟨rfl, q16⟩
      · skip
        refine SeqR.z rfl rfl rfl rfl rfl (not_f hb13) ?_
        refine SeqR.z rfl rfl rfl rfl rfl (not_f hb13) ?_
        refine SeqR.y rfl rfl rfl rfl rfl hb12 (yl_pick_t rfl rfl (not_f hb13) rfl ?_)
        refine SeqR.d1 rfl rfl rfl (yl_pick_t rfl rfl hb12 rfl ?_)
        refine SeqR.d1 rfl rfl rfl (yl_assign rfl rfl ?_)
        refine SeqR.done ?_
        refine tn ?_
        refine CW.ret ?_
        refine rr rfl (.cons rfl .nil) ?_
        have hM17 : (s_l3Write p_key p_val p_gone) = (true) := by simp only [s_l3Write, hb8, hb12, hb13, cond_true, cond_false, loopE_done, loopE_ret]
        rw [hM17]
        have q18 := Ex.trans (Ex.refl w) hE7
        have q19 := Ex.trans q18 hE11
        exact ⟨rfl, q19⟩
    · skip
      refine SeqR.z rfl rfl rfl rfl rfl hb12 ?_
      refine SeqR.z rfl rfl rfl rfl rfl hb12 ?_
      refine SeqR.z rfl rfl rfl rfl rfl hb12 ?_
      refine SeqR.q rfl rfl rfl rfl rfl ?_
      refine SeqR.q rfl rfl rfl rfl rfl ?_
      refine SeqR.z rfl rfl rfl rfl rfl hb12 ?_
      refine SeqR.d1 rfl rfl rfl (yl_pick_f rfl rfl hb12 rfl ?_)
      refine SeqR.d1 rfl rfl rfl (yl_assign rfl rfl ?_)
      refine SeqR.done ?_
      refine tn ?_
      refine CW.ret ?_
      refine rr rfl (.cons rfl .nil) ?_
      have hM20 : (s_l3Write p_key p_val p_gone) = (false) := by simp only [s_l3Write, hb8, hb12, cond_true, cond_false, loopE_done, loopE_ret]
      rw [hM20]
      have q21 := Ex.trans (Ex.refl w) hE7
      have q22 := Ex.trans q21 hE11
      exact ⟨rfl, q22⟩
  · skip
    refine SeqR.z rfl rfl rfl rfl rfl hb8 ?_
    refine SeqR.z rfl rfl rfl rfl rfl hb8 ?_
    refine SeqR.d1 rfl rfl rfl (yl_pick_f rfl rfl hb8 rfl ?_)
    refine SeqR.d1 rfl rfl rfl (yl_move rfl rfl ?_)
    refine SeqR.z rfl rfl rfl rfl rfl rfl ?_
    refine SeqR.z rfl rfl rfl rfl rfl rfl ?_
    refine SeqR.z rfl rfl rfl rfl rfl rfl ?_
    refine SeqR.q rfl rfl rfl rfl rfl ?_
    refine SeqR.q rfl rfl rfl rfl rfl ?_
    refine SeqR.z rfl rfl rfl rfl rfl rfl ?_
    refine SeqR.d1 rfl rfl rfl (yl_pick_f rfl rfl rfl rfl ?_)
    refine SeqR.d1 rfl rfl rfl (yl_assign rfl rfl ?_)
    refine SeqR.done ?_
    refine tn ?_
    refine CW.ret ?_
    refine rr rfl (.cons rfl .nil) ?_
    have hM23 : (s_l3Write p_key p_val p_gone) = (false) := by simp only [s_l3Write, hb8, cond_true, cond_false, loopE_done, loopE_ret]
    rw [hM23]
    have q24 := Ex.trans (Ex.refl w) hE7
    exact ⟨rfl, q24⟩
set_option maxRecDepth 100000 in
set_option maxHeartbeats 2000000 in
theorem c_s_l3Writes {A1 : Option Addr} {c1 : Nat} {w : World} (p_l : List DWrite) (h1 : RdS w (Iv 0 w.heap.size) (RF e_Write) 3 A1 p_l.length c1 p_l) (o2 : (okL ok_Write) p_l) : Cal Try.prog 109 #[.slice A1 p_l.length c1] w fun v w' => v = .bool ((s_l3Writes p_l)) ∧ Ex w w' := by
  have hol3 := o2.1
  refine Cal.of (vs := [.slice A1 p_l.length c1]) Try.func109 rfl Try.ntmps109 rfl ?_
  refine CW.seq ?_
  refine CW.region ?_
  refine SeqR.d1 rfl rfl rfl (yl_assign rfl rfl ?_)
  refine SeqR.done ?_
  refine tn ?_
  refine CW.seq ?_
  refine CW.seq ?_
  refine CW.region ?_
  refine SeqR.d1 rfl rfl rfl (yl_move rfl rfl ?_)
  refine SeqR.d1 rfl rfl rfl (yl_len Try.un67 rfl rfl ?_)
  refine SeqR.d1 rfl rfl rfl (yl_move rfl rfl ?_)
  refine SeqR.done ?_
  refine tn ?_
  refine CW.block ?_
  refine CW.loop (fun m24 L25 w26 => ∃ (k4 : Nat), m24 = p_l.length - k4 ∧ k4 ≤ p_l.length ∧ lkp L25 0 = some (.slice A1 p_l.length c1) ∧ lkp L25 5 = some (.slice A1 p_l.length c1) ∧ lkp L25 6 = some (.int .i64 ((p_l.length : Int))) ∧ lkp L25 7 = some (.int .i64 ((k4 : Int))) ∧ RdS w26 (Iv 0 w.heap.size) (RF e_Write) 3 A1 p_l.length c1 p_l ∧ Ex w w26 ∧ loopM (B_s_l3Writes_0 p_l) (p_l.length - k4) k4 () = loopM (B_s_l3Writes_0 p_l) (p_l.length - 0) 0 ()) (p_l.length - 0) ?_ ?_
  · exact ⟨0, rfl, Nat.zero_le _, rfl, rfl, rfl, rfl, h1, (Ex.refl w), rfl⟩
  · rintro m27 L28 w29 ⟨k4, rfl, hk30, hl32, hl33, hl34, hl35, hf36, hf37, hI31⟩
    refine CW.sub (Sub.cons hl32 (Sub.cons hl33 (Sub.cons hl34 (Sub.cons hl35 (Sub.nil _))))) ?_
    have hf37z := Ex.size hf37
    have hbg38 := RdS.big hf36
    rcases Nat.lt_or_ge k4 p_l.length with hlt39 | hlt39
    · skip
      refine CW.seq ?_
      refine CW.region ?_
      refine SeqR.d1 rfl rfl rfl (yl_lss rfl rfl rfl ?_)
      refine SeqR.done ?_
      refine tn ?_
      refine CW.seq ?_
      refine CW.cond_t rfl (lt_t hlt39) ?_
      refine CW.skip ?_
      refine tn ?_
      refine CW.seq ?_
      refine CW.block ?_
      refine CW.seq ?_
      refine CW.region ?_
      refine SeqR.d1 rfl rfl rfl (yl_move rfl rfl ?_)
      obtain ⟨eb40, eo40, ec40, eA40, eS40, ebl40, el40, eR40, eC40⟩ := RdS.atD hf36 d_Write (i := k4) (by first | omega | assumption)
      obtain rfl := eR40
      have eC40 : Cells w29 eb40 (eo40 + k4 * 3) [.string (bs ((p_l.getD k4 d_Write).Key)), .string (bs ((p_l.getD k4 d_Write).Val)), .bool ((p_l.getD k4 d_Write).Gone)] := eC40
      refine SeqR.d1 rfl rfl rfl (yl_indexAddrN Try.un67 Try.ty139 rfl rfl rfl eA40 (by first | omega | assumption | (simp only [IntKind.wrap_i64] at *; omega)) ?_)
      refine SeqR.d1 rfl rfl rfl (yl_loadN (cs := [.string (bs ((p_l.getD k4 d_Write).Key)), .string (bs ((p_l.getD k4 d_Write).Val)), .bool ((p_l.getD k4 d_Write).Gone)]) Try.ty139 rfl rfl eC40 rfl ?_)
      refine SeqR.d1 rfl rfl rfl (yl_alloc Try.ty139 (cs := [.string (bs (([] : Str))), .string (bs (([] : Str))), .bool (false)]) rfl rfl ?_)
      intro b41 w42 hs43 hz44 hB45 hE46
      refine SeqR.d1 rfl rfl rfl (yl_assign rfl rfl ?_)
      refine SeqR.u rfl rfl (yl_store (vs := [.string (bs ((p_l.getD k4 d_Write).Key)), .string (bs ((p_l.getD k4 d_Write).Val)), .bool ((p_l.getD k4 d_Write).Gone)]) Try.ty139 rfl rfl rfl rfl rfl rfl hB45 (Nat.le_of_ble_eq_true rfl) ?_)
      intro w47 hB48 hO49
      have hB48 : Box w47 b41 139 [.string (bs ((p_l.getD k4 d_Write).Key)), .string (bs ((p_l.getD k4 d_Write).Val)), .bool ((p_l.getD k4 d_Write).Gone)] := hB48
      have hO49z := hO49.size
      refine SeqR.done ?_
      refine tn ?_
      refine CW.seq ?_
      refine bcase (s_l3Write ((p_l.getD k4 d_Write).Key) ((p_l.getD k4 d_Write).Val) ((p_l.getD k4 d_Write).Gone)) (fun hb51 => ?_) (fun hb51 => ?_)
      · skip
        refine bcase (decide (0 < (k4 : Int))) (fun hb53 => ?_) (fun hb53 => ?_)
        · have hb53p := dec_t hb53
          have q55 := RdS.ex good_Write hf36 hE46
          have q56 := RdS.only good_Write q55 hO49 (by simp only [Iv]; omega)
          obtain ⟨eb57, eo57, ec57, eA57, eS57, ebl57, el57, eR57, eC57⟩ := RdS.atD q56 d_Write (i := (IntKind.wrap .i64 ((k4 : Int) - 1)).toNat) (by first | omega | assumption | (simp only [IntKind.wrap_i64] at *; omega))
          obtain rfl := eR57
          have eC57 : Cells w47 eb57 (eo57 + ((IntKind.wrap .i64 ((k4 : Int) - 1)).toNat) * 3) [.string (bs ((p_l.getD ((IntKind.wrap .i64 ((k4 : Int) - 1)).toNat) d_Write).Key)), .string (bs ((p_l.getD ((IntKind.wrap .i64 ((k4 : Int) - 1)).toNat) d_Write).Val)), .bool ((p_l.getD ((IntKind.wrap .i64 ((k4 : Int) - 1)).toNat) d_Write).Gone)] := eC57
          refine CW.drawsI 23 (vgetI [DetI (.pointer (some ⟨b41, 0 + 0, none⟩)), DetI (.string (bs ((p_l.getD k4 d_Write).Key))), DetI (.pointer (some ⟨b41, 0 + 1, none⟩)), DetI (.string (bs ((p_l.getD k4 d_Write).Val))), DetI (.pointer (some ⟨b41, 0 + 2, none⟩)), DetI (.bool ((p_l.getD k4 d_Write).Gone)), DetI (.bool ((s_l3Write ((p_l.getD k4 d_Write).Key) ((p_l.getD k4 d_Write).Val) ((p_l.getD k4 d_Write).Gone)))), DetI (.bool (!(s_l3Write ((p_l.getD k4 d_Write).Key) ((p_l.getD k4 d_Write).Val) ((p_l.getD k4 d_Write).Gone)))), DetI (.bool (!(s_l3Write ((p_l.getD k4 d_Write).Key) ((p_l.getD k4 d_Write).Val) ((p_l.getD k4 d_Write).Gone)))), DetI (.int .i64 ((k4 : Int))), DetI (.bool (decide (0 < (k4 : Int)))), DetI (.bool (decide (0 < (k4 : Int)))), DetI (.slice A1 p_l.length c1), DetI (.int .i64 ((k4 : Int))), DetI (.int .i64 (IntKind.wrap .i64 ((k4 : Int) - 1))), DetI (.pointer (some ⟨eb57, eo57 + ((IntKind.wrap .i64 ((k4 : Int) - 1)).toNat) * 3, none⟩)), DetI (.pointer (some ⟨eb57, eo57 + ((IntKind.wrap .i64 ((k4 : Int) - 1)).toNat) * 3 + 0, none⟩)), DetI (.string (bs ((p_l.getD ((IntKind.wrap .i64 ((k4 : Int) - 1)).toNat) d_Write).Key))), DetI (.pointer (some ⟨b41, 0 + 0, none⟩)), DetI (.string (bs ((p_l.getD k4 d_Write).Key))), DetI (.bool (!(sLt ((p_l.getD ((IntKind.wrap .i64 ((k4 : Int) - 1)).toNat) d_Write).Key) ((p_l.getD k4 d_Write).Key)))), DetI (.bool (!(sLt ((p_l.getD ((IntKind.wrap .i64 ((k4 : Int) - 1)).toNat) d_Write).Key) ((p_l.getD k4 d_Write).Key)))), DetI (.bool (!(sLt ((p_l.getD ((IntKind.wrap .i64 ((k4 : Int) - 1)).toNat) d_Write).Key) ((p_l.getD k4 d_Write).Key))))]) Try.follows rfl rfl rfl rfl rfl rfl (vgetI_stable ⟨StableI.det _, StableI.det _, StableI.det _, StableI.det _, StableI.det _, StableI.det _, StableI.det _, StableI.det _, StableI.det _, StableI.det _, StableI.det _, StableI.det _, StableI.det _, StableI.det _, StableI.det _, StableI.det _, StableI.det _, StableI.det _, StableI.det _, StableI.det _, StableI.det _, StableI.det _, StableI.det _, trivial⟩) ⟨?_, ?_, ?_, ?_, ?_, ?_, ?_, ?_, ?_, ?_, ?_, ?_, ?_, ?_, ?_, ?_, ?_, ?_, ?_, ?_, ?_, ?_, ?_, trivial⟩ ?_
          · intro L58 w59 hi60
            have hE61 := hi60.ex
            have hE61z := Ex.size hE61
            have hx62 := hi60.old 4 _ rfl rfl
            exact OpR.op' rfl (Yl.sameI (yl_fieldAddr Try.fd139_0 rfl hx62 ⟨fun _ _ => rfl, rfl⟩))
          · intro L63 w64 hi65
            have hE66 := hi65.ex
            have hE66z := Ex.size hE66
            obtain ⟨_, _, _, hx67, -, -, -, rfl⟩ := hi65.dep 0 12 rfl rfl
            have q68 := Box.ex hB48 hE66
            exact OpR.op' rfl (Yl.sameI (yl_load1 Try.ty9 rfl hx67 ((q68.cell 0).trans rfl) ⟨fun _ _ => rfl, rfl⟩))
          · intro L69 w70 hi71
            have hE72 := hi71.ex
            have hE72z := Ex.size hE72
            have hx73 := hi71.old 4 _ rfl rfl
            exact OpR.op' rfl (Yl.sameI (yl_fieldAddr Try.fd139_1 rfl hx73 ⟨fun _ _ => rfl, rfl⟩))
          · intro L74 w75 hi76
            have hE77 := hi76.ex
            have hE77z := Ex.size hE77
            obtain ⟨_, _, _, hx78, -, -, -, rfl⟩ := hi76.dep 2 14 rfl rfl
            have q79 := Box.ex hB48 hE77
            exact OpR.op' rfl (Yl.sameI (yl_load1 Try.ty9 rfl hx78 ((q79.cell 1).trans rfl) ⟨fun _ _ => rfl, rfl⟩))
          · intro L80 w81 hi82
            have hE83 := hi82.ex
            have hE83z := Ex.size hE83
            have hx84 := hi82.old 4 _ rfl rfl
            exact OpR.op' rfl (Yl.sameI (yl_fieldAddr Try.fd139_2 rfl hx84 ⟨fun _ _ => rfl, rfl⟩))
          · intro L85 w86 hi87
            have hE88 := hi87.ex
            have hE88z := Ex.size hE88
            obtain ⟨_, _, _, hx89, -, -, -, rfl⟩ := hi87.dep 4 16 rfl rfl
            have q90 := Box.ex hB48 hE88
            exact OpR.op' rfl (Yl.sameI (yl_load1 Try.ty4 rfl hx89 ((q90.cell 2).trans rfl) ⟨fun _ _ => rfl, rfl⟩))
          · intro L91 w92 hi93
            have hE94 := hi93.ex
            have hE94z := Ex.size hE94
            obtain ⟨_, _, _, hx95, -, -, -, rfl⟩ := hi93.dep 1 13 rfl rfl
            obtain ⟨_, _, _, hx96, -, -, -, rfl⟩ := hi93.dep 3 15 rfl rfl
            obtain ⟨_, _, _, hx97, -, -, -, rfl⟩ := hi93.dep 5 17 rfl rfl
            refine OpR.op' rfl (yl_call Try.en128 rfl (opvs_cons hx95 (opvs_cons hx96 (opvs_cons hx97 opvs_nil))) (Cal.mono (c_s_l3Write ((p_l.getD k4 d_Write).Key) ((p_l.getD k4 d_Write).Val) ((p_l.getD k4 d_Write).Gone) ((okL.getD o2 ok_d_Write _).1) ((okL.getD o2 ok_d_Write _).2)) ?_))
            rintro v99 w98 ⟨rfl, hE100⟩
            exact ⟨rfl, hE100⟩
          · intro L101 w102 hi103
            have hE104 := hi103.ex
            have hE104z := Ex.size hE104
            obtain ⟨_, _, _, hx105, -, -, -, rfl⟩ := hi103.dep 6 18 rfl rfl
            exact OpR.op' rfl (Yl.sameI (yl_not rfl hx105 ⟨fun _ _ => rfl, rfl⟩))
          · intro L106 w107 hi108
            have hE109 := hi108.ex
            have hE109z := Ex.size hE109
            obtain ⟨_, _, _, hx110, -, -, -, rfl⟩ := hi108.dep 7 19 rfl rfl
            exact OpR.op' rfl (Yl.sameI (yl_move rfl hx110 ⟨fun _ _ => rfl, rfl⟩))
          · intro L111 w112 hi113
            have hE114 := hi113.ex
            have hE114z := Ex.size hE114
            obtain ⟨_, _, _, hx115, -, -, -, rfl⟩ := hi113.dep 8 20 rfl rfl
            have hx116 := hi113.old 3 _ rfl rfl
            exact OpR.want rfl rfl hx115 (not_t hb51) (Yl.sameI (yl_move rfl hx116 ⟨fun _ _ => rfl, rfl⟩))
          · intro L117 w118 hi119
            have hE120 := hi119.ex
            have hE120z := Ex.size hE120
            obtain ⟨_, _, _, hx121, -, -, -, rfl⟩ := hi119.dep 8 20 rfl rfl
            obtain ⟨_, _, _, hx122, -, -, -, rfl⟩ := hi119.dep 9 21 rfl rfl
            exact OpR.want rfl rfl hx121 (not_t hb51) (Yl.sameI (yl_gtr rfl hx122 rfl ⟨fun _ _ => rfl, rfl⟩))
          · intro L123 w124 hi125
            have hE126 := hi125.ex
            have hE126z := Ex.size hE126
            obtain ⟨_, _, _, hx127, -, -, -, rfl⟩ := hi125.dep 8 20 rfl rfl
            obtain ⟨_, _, _, hx128, -, -, -, rfl⟩ := hi125.dep 10 22 rfl rfl
            exact OpR.want rfl rfl hx127 (not_t hb51) (Yl.sameI (yl_move rfl hx128 ⟨fun _ _ => rfl, rfl⟩))
          · intro L129 w130 hi131
            have hE132 := hi131.ex
            have hE132z := Ex.size hE132
            obtain ⟨_, _, _, hx133, -, -, -, rfl⟩ := hi131.dep 11 23 rfl rfl
            have hx134 := hi131.old 0 _ rfl rfl
            exact OpR.want rfl rfl hx133 hb53 (Yl.sameI (yl_move rfl hx134 ⟨fun _ _ => rfl, rfl⟩))
          · intro L135 w136 hi137
            have hE138 := hi137.ex
            have hE138z := Ex.size hE138
            obtain ⟨_, _, _, hx139, -, -, -, rfl⟩ := hi137.dep 11 23 rfl rfl
            have hx140 := hi137.old 3 _ rfl rfl
            exact OpR.want rfl rfl hx139 hb53 (Yl.sameI (yl_move rfl hx140 ⟨fun _ _ => rfl, rfl⟩))
          · intro L141 w142 hi143
            have hE144 := hi143.ex
            have hE144z := Ex.size hE144
            obtain ⟨_, _, _, hx145, -, -, -, rfl⟩ := hi143.dep 11 23 rfl rfl
            obtain ⟨_, _, _, hx146, -, -, -, rfl⟩ := hi143.dep 13 25 rfl rfl
            exact OpR.want rfl rfl hx145 hb53 (Yl.sameI (yl_sub rfl hx146 rfl ⟨fun _ _ => rfl, rfl⟩))
          · intro L147 w148 hi149
            have hE150 := hi149.ex
            have hE150z := Ex.size hE150
            obtain ⟨_, _, _, hx151, -, -, -, rfl⟩ := hi149.dep 11 23 rfl rfl
            obtain ⟨_, _, _, hx152, -, -, -, rfl⟩ := hi149.dep 12 24 rfl rfl
            obtain ⟨_, _, _, hx153, -, -, -, rfl⟩ := hi149.dep 14 26 rfl rfl
            exact OpR.want rfl rfl hx151 hb53 (Yl.sameI (yl_indexAddr Try.un67 Try.ty139 rfl hx152 hx153 eA57 (by first | omega | assumption | (simp only [IntKind.wrap_i64] at *; omega)) (by first | omega | assumption | (simp only [IntKind.wrap_i64] at *; omega)) ⟨fun _ _ => rfl, rfl⟩))
          · intro L154 w155 hi156
            have hE157 := hi156.ex
            have hE157z := Ex.size hE157
            obtain ⟨_, _, _, hx158, -, -, -, rfl⟩ := hi156.dep 11 23 rfl rfl
            obtain ⟨_, _, _, hx159, -, -, -, rfl⟩ := hi156.dep 15 27 rfl rfl
            exact OpR.want rfl rfl hx158 hb53 (Yl.sameI (yl_fieldAddr Try.fd139_0 rfl hx159 ⟨fun _ _ => rfl, rfl⟩))
          · intro L160 w161 hi162
            have hE163 := hi162.ex
            have hE163z := Ex.size hE163
            obtain ⟨_, _, _, hx164, -, -, -, rfl⟩ := hi162.dep 11 23 rfl rfl
            obtain ⟨_, _, _, hx165, -, -, -, rfl⟩ := hi162.dep 16 28 rfl rfl
            have q166 := Cells.ex eC57 hE163
            exact OpR.want rfl rfl hx164 hb53 (Yl.sameI (yl_load1 Try.ty9 rfl hx165 (q166 0 _ rfl) ⟨fun _ _ => rfl, rfl⟩))
          · intro L167 w168 hi169
            have hE170 := hi169.ex
            have hE170z := Ex.size hE170
            obtain ⟨_, _, _, hx171, -, -, -, rfl⟩ := hi169.dep 11 23 rfl rfl
            have hx172 := hi169.old 4 _ rfl rfl
            exact OpR.want rfl rfl hx171 hb53 (Yl.sameI (yl_fieldAddr Try.fd139_0 rfl hx172 ⟨fun _ _ => rfl, rfl⟩))
          · intro L173 w174 hi175
            have hE176 := hi175.ex
            have hE176z := Ex.size hE176
            obtain ⟨_, _, _, hx177, -, -, -, rfl⟩ := hi175.dep 11 23 rfl rfl
            obtain ⟨_, _, _, hx178, -, -, -, rfl⟩ := hi175.dep 18 30 rfl rfl
            have q179 := Box.ex hB48 hE176
            exact OpR.want rfl rfl hx177 hb53 (Yl.sameI (yl_load1 Try.ty9 rfl hx178 ((q179.cell 0).trans rfl) ⟨fun _ _ => rfl, rfl⟩))
          · intro L180 w181 hi182
            have hE183 := hi182.ex
            have hE183z := Ex.size hE183
            obtain ⟨_, _, _, hx184, -, -, -, rfl⟩ := hi182.dep 11 23 rfl rfl
            obtain ⟨_, _, _, hx185, -, -, -, rfl⟩ := hi182.dep 17 29 rfl rfl
            obtain ⟨_, _, _, hx186, -, -, -, rfl⟩ := hi182.dep 19 31 rfl rfl
            exact OpR.want rfl rfl hx184 hb53 (Yl.sameI (yl_sgeq (a := ((p_l.getD ((IntKind.wrap .i64 ((k4 : Int) - 1)).toNat) d_Write).Key)) (b := ((p_l.getD k4 d_Write).Key)) rfl hx185 hx186 ⟨fun _ _ => rfl, rfl⟩))
          · intro L187 w188 hi189
            have hE190 := hi189.ex
            have hE190z := Ex.size hE190
            obtain ⟨_, _, _, hx191, -, -, -, rfl⟩ := hi189.dep 8 20 rfl rfl
            obtain ⟨_, _, _, hx192, -, -, -, rfl⟩ := hi189.dep 20 32 rfl rfl
            obtain ⟨_, _, _, hx193, -, -, -, rfl⟩ := hi189.dep 11 23 rfl rfl
            exact OpR.want rfl rfl hx191 (not_t hb51) (Yl.sameI (yl_pick_t rfl hx193 hb53 hx192 ⟨fun _ _ => rfl, rfl⟩))
          · intro L194 w195 hi196
            have hE197 := hi196.ex
            have hE197z := Ex.size hE197
            obtain ⟨_, _, _, hx198, -, -, -, rfl⟩ := hi196.dep 21 33 rfl rfl
            obtain ⟨_, _, _, hx199, -, -, -, rfl⟩ := hi196.dep 8 20 rfl rfl
            exact OpR.op' rfl (Yl.sameI (yl_pick_f rfl hx199 (not_t hb51) hx198 ⟨fun _ _ => rfl, rfl⟩))
          · intro fl203 fh204 L200 w201 hp202
            have hE205 := hp202.ex
            have hE205z := Ex.size hE205
            have hx206 := hp202.old 0 _ rfl rfl
            have hx207 := hp202.old 5 _ rfl rfl
            have hx208 := hp202.old 6 _ rfl rfl
            have hx209 := hp202.old 7 _ rfl rfl
            obtain ⟨_, hx210, rfl⟩ := hp202.new 9 21 rfl rfl
            obtain ⟨_, hx211, rfl⟩ := hp202.new 10 22 rfl rfl
            obtain ⟨_, hx212, rfl⟩ := hp202.new 11 23 rfl rfl
            obtain ⟨_, hx213, rfl⟩ := hp202.new 12 24 rfl rfl
            obtain ⟨_, hx214, rfl⟩ := hp202.new 13 25 rfl rfl
            obtain ⟨_, hx215, rfl⟩ := hp202.new 14 26 rfl rfl
            obtain ⟨_, hx216, rfl⟩ := hp202.new 15 27 rfl rfl
            obtain ⟨_, hx217, rfl⟩ := hp202.new 16 28 rfl rfl
            obtain ⟨_, hx218, rfl⟩ := hp202.new 17 29 rfl rfl
            obtain ⟨_, hx219, rfl⟩ := hp202.new 18 30 rfl rfl
            obtain ⟨_, hx220, rfl⟩ := hp202.new 19 31 rfl rfl
            obtain ⟨_, hx221, rfl⟩ := hp202.new 20 32 rfl rfl
            obtain ⟨_, hx222, rfl⟩ := hp202.new 21 33 rfl rfl
            obtain ⟨_, hx223, rfl⟩ := hp202.new 22 34 rfl rfl
            refine SeqR.done ?_
            refine tn ?_
            refine CW.sub (Sub.cons (d := 0) hx206 (Sub.cons (d := 5) hx207 (Sub.cons (d := 6) hx208 (Sub.cons (d := 7) hx209 (Sub.cons (d := 21) hx210 (Sub.cons (d := 22) hx211 (Sub.cons (d := 23) hx212 (Sub.cons (d := 24) hx213 (Sub.cons (d := 25) hx214 (Sub.cons (d := 26) hx215 (Sub.cons (d := 27) hx216 (Sub.cons (d := 28) hx217 (Sub.cons (d := 29) hx218 (Sub.cons (d := 30) hx219 (Sub.cons (d := 31) hx220 (Sub.cons (d := 32) hx221 (Sub.cons (d := 33) hx222 (Sub.cons (d := 34) hx223 (Sub.nil _))))))))))))))))))) ?_
            refine bcase (sLt ((p_l.getD ((IntKind.wrap .i64 ((k4 : Int) - 1)).toNat) d_Write).Key) ((p_l.getD k4 d_Write).Key)) (fun hb224 => ?_) (fun hb224 => ?_)
            · skip
              refine CW.cond_f rfl (not_t hb224) ?_
              refine CW.skip ?_
              refine bn ?_
              refine tn ?_
              refine CW.region ?_
              refine SeqR.d1 rfl rfl rfl (yl_inc rfl rfl rfl (by omega) ?_)
              refine SeqR.d1 rfl rfl rfl (yl_move rfl rfl ?_)
              refine SeqR.done ?_
              refine tn ?_
              have hB225 : B_s_l3Writes_0 p_l k4 () = .cont () := by simp only [B_s_l3Writes_0, hb51, hb53, hb224, cond_true, cond_false, loopE_done, loopE_ret]
              have q226 := RdS.ex good_Write q56 hE205
              have q227 := Ex.trans hf37 hE46
              have q228 := Below.only q227 hO49 (by omega)
              have q229 := Ex.trans q228 hE205
              exact ⟨p_l.length - (k4 + 1), by omega, k4 + 1, rfl, hlt39, rfl, rfl, rfl, rfl, q226, q229, (loopM.cont hlt39 hB225).symm.trans hI31⟩
            · skip
              refine CW.cond_t rfl (not_f hb224) ?_
              refine CW.seq ?_
              refine CW.region ?_
              refine SeqR.d1 rfl rfl rfl (yl_assign rfl rfl ?_)
              refine SeqR.done ?_
              refine tn ?_
              refine CW.ret ?_
              refine br ?_
              refine tr ?_
              refine tr ?_
              have hB231 : B_s_l3Writes_0 p_l k4 () = .ret false := by simp only [B_s_l3Writes_0, hb51, hb53, hb224, cond_true, cond_false, loopE_done, loopE_ret]
              have hL230 : loopM (B_s_l3Writes_0 p_l) (p_l.length - 0) 0 () = .ret false := hI31.symm.trans (loopM.ret hlt39 hB231)
              refine br ?_
              refine tr ?_
              refine rr rfl (.cons rfl .nil) ?_
              have hM232 : (s_l3Writes p_l) = (false) := by simp only [s_l3Writes, hb51, hb53, hb224, hL230, cond_true, cond_false, loopE_done, loopE_ret]
              rw [hM232]
              have q233 := Ex.trans hf37 hE46
              have q234 := Below.only q233 hO49 (by omega)
              have q235 := Ex.trans q234 hE205
              exact ⟨rfl, q235⟩
        · have hb53p := dec_f hb53
          refine CW.drawsI 23 (vgetI [DetI (.pointer (some ⟨b41, 0 + 0, none⟩)), DetI (.string (bs ((p_l.getD k4 d_Write).Key))), DetI (.pointer (some ⟨b41, 0 + 1, none⟩)), DetI (.string (bs ((p_l.getD k4 d_Write).Val))), DetI (.pointer (some ⟨b41, 0 + 2, none⟩)), DetI (.bool ((p_l.getD k4 d_Write).Gone)), DetI (.bool ((s_l3Write ((p_l.getD k4 d_Write).Key) ((p_l.getD k4 d_Write).Val) ((p_l.getD k4 d_Write).Gone)))), DetI (.bool (!(s_l3Write ((p_l.getD k4 d_Write).Key) ((p_l.getD k4 d_Write).Val) ((p_l.getD k4 d_Write).Gone)))), DetI (.bool (!(s_l3Write ((p_l.getD k4 d_Write).Key) ((p_l.getD k4 d_Write).Val) ((p_l.getD k4 d_Write).Gone)))), DetI (.int .i64 ((k4 : Int))), DetI (.bool (decide (0 < (k4 : Int)))), DetI (.bool (decide (0 < (k4 : Int)))), DetI (undef), DetI (undef), DetI (undef), DetI (undef), DetI (undef), DetI (undef), DetI (undef), DetI (undef), DetI (undef), DetI (.bool (false)), DetI (.bool (false))]) Try.follows rfl rfl rfl rfl rfl rfl (vgetI_stable ⟨StableI.det _, StableI.det _, StableI.det _, StableI.det _, StableI.det _, StableI.det _, StableI.det _, StableI.det _, StableI.det _, StableI.det _, StableI.det _, StableI.det _, StableI.det _, StableI.det _, StableI.det _, StableI.det _, StableI.det _, StableI.det _, StableI.det _, StableI.det _, StableI.det _, StableI.det _, StableI.det _, trivial⟩) ⟨?_, ?_, ?_, ?_, ?_, ?_, ?_, ?_, ?_, ?_, ?_, ?_, ?_, ?_, ?_, ?_, ?_, ?_, ?_, ?_, ?_, ?_, ?_, trivial⟩ ?_
          · intro L237 w238 hi239
            have hE240 := hi239.ex
            have hE240z := Ex.size hE240
            have hx241 := hi239.old 4 _ rfl rfl
            exact OpR.op' rfl (Yl.sameI (yl_fieldAddr Try.fd139_0 rfl hx241 ⟨fun _ _ => rfl, rfl⟩))
          · intro L242 w243 hi244
            have hE245 := hi244.ex
            have hE245z := Ex.size hE245
            obtain ⟨_, _, _, hx246, -, -, -, rfl⟩ := hi244.dep 0 12 rfl rfl
            have q247 := Box.ex hB48 hE245
            exact OpR.op' rfl (Yl.sameI (yl_load1 Try.ty9 rfl hx246 ((q247.cell 0).trans rfl) ⟨fun _ _ => rfl, rfl⟩))
          · intro L248 w249 hi250
            have hE251 := hi250.ex
            have hE251z := Ex.size hE251
            have hx252 := hi250.old 4 _ rfl rfl
            exact OpR.op' rfl (Yl.sameI (yl_fieldAddr Try.fd139_1 rfl hx252 ⟨fun _ _ => rfl, rfl⟩))
          · intro L253 w254 hi255
            have hE256 := hi255.ex
            have hE256z := Ex.size hE256
            obtain ⟨_, _, _, hx257, -, -, -, rfl⟩ := hi255.dep 2 14 rfl rfl
            have q258 := Box.ex hB48 hE256
            exact OpR.op' rfl (Yl.sameI (yl_load1 Try.ty9 rfl hx257 ((q258.cell 1).trans rfl) ⟨fun _ _ => rfl, rfl⟩))
          · intro L259 w260 hi261
            have hE262 := hi261.ex
            have hE262z := Ex.size hE262
            have hx263 := hi261.old 4 _ rfl rfl
            exact OpR.op' rfl (Yl.sameI (yl_fieldAddr Try.fd139_2 rfl hx263 ⟨fun _ _ => rfl, rfl⟩))
          · intro L264 w265 hi266
            have hE267 := hi266.ex
            have hE267z := Ex.size hE267
            obtain ⟨_, _, _, hx268, -, -, -, rfl⟩ := hi266.dep 4 16 rfl rfl
            have q269 := Box.ex hB48 hE267
            exact OpR.op' rfl (Yl.sameI (yl_load1 Try.ty4 rfl hx268 ((q269.cell 2).trans rfl) ⟨fun _ _ => rfl, rfl⟩))
          · intro L270 w271 hi272
            have hE273 := hi272.ex
            have hE273z := Ex.size hE273
            obtain ⟨_, _, _, hx274, -, -, -, rfl⟩ := hi272.dep 1 13 rfl rfl
            obtain ⟨_, _, _, hx275, -, -, -, rfl⟩ := hi272.dep 3 15 rfl rfl
            obtain ⟨_, _, _, hx276, -, -, -, rfl⟩ := hi272.dep 5 17 rfl rfl
            refine OpR.op' rfl (yl_call Try.en128 rfl (opvs_cons hx274 (opvs_cons hx275 (opvs_cons hx276 opvs_nil))) (Cal.mono (c_s_l3Write ((p_l.getD k4 d_Write).Key) ((p_l.getD k4 d_Write).Val) ((p_l.getD k4 d_Write).Gone) ((okL.getD o2 ok_d_Write _).1) ((okL.getD o2 ok_d_Write _).2)) ?_))
            rintro v278 w277 ⟨rfl, hE279⟩
            exact ⟨rfl, hE279⟩
          · intro L280 w281 hi282
            have hE283 := hi282.ex
            have hE283z := Ex.size hE283
            obtain ⟨_, _, _, hx284, -, -, -, rfl⟩ := hi282.dep 6 18 rfl rfl
            exact OpR.op' rfl (Yl.sameI (yl_not rfl hx284 ⟨fun _ _ => rfl, rfl⟩))
          · intro L285 w286 hi287
            have hE288 := hi287.ex
            have hE288z := Ex.size hE288
            obtain ⟨_, _, _, hx289, -, -, -, rfl⟩ := hi287.dep 7 19 rfl rfl
            exact OpR.op' rfl (Yl.sameI (yl_move rfl hx289 ⟨fun _ _ => rfl, rfl⟩))
          · intro L290 w291 hi292
            have hE293 := hi292.ex
            have hE293z := Ex.size hE293
            obtain ⟨_, _, _, hx294, -, -, -, rfl⟩ := hi292.dep 8 20 rfl rfl
            have hx295 := hi292.old 3 _ rfl rfl
            exact OpR.want rfl rfl hx294 (not_t hb51) (Yl.sameI (yl_move rfl hx295 ⟨fun _ _ => rfl, rfl⟩))
          · intro L296 w297 hi298
            have hE299 := hi298.ex
            have hE299z := Ex.size hE299
            obtain ⟨_, _, _, hx300, -, -, -, rfl⟩ := hi298.dep 8 20 rfl rfl
            obtain ⟨_, _, _, hx301, -, -, -, rfl⟩ := hi298.dep 9 21 rfl rfl
            exact OpR.want rfl rfl hx300 (not_t hb51) (Yl.sameI (yl_gtr rfl hx301 rfl ⟨fun _ _ => rfl, rfl⟩))
          · intro L302 w303 hi304
            have hE305 := hi304.ex
            have hE305z := Ex.size hE305
            obtain ⟨_, _, _, hx306, -, -, -, rfl⟩ := hi304.dep 8 20 rfl rfl
            obtain ⟨_, _, _, hx307, -, -, -, rfl⟩ := hi304.dep 10 22 rfl rfl
            exact OpR.want rfl rfl hx306 (not_t hb51) (Yl.sameI (yl_move rfl hx307 ⟨fun _ _ => rfl, rfl⟩))
          · intro L308 w309 hi310
            have hE311 := hi310.ex
            have hE311z := Ex.size hE311
            obtain ⟨_, _, _, hx312, -, -, -, rfl⟩ := hi310.dep 11 23 rfl rfl
            exact OpR.skip rfl rfl hx312 hb53 ⟨rfl, Ex.refl _⟩
          · intro L313 w314 hi315
            have hE316 := hi315.ex
            have hE316z := Ex.size hE316
            obtain ⟨_, _, _, hx317, -, -, -, rfl⟩ := hi315.dep 11 23 rfl rfl
            exact OpR.skip rfl rfl hx317 hb53 ⟨rfl, Ex.refl _⟩
          · intro L318 w319 hi320
            have hE321 := hi320.ex
            have hE321z := Ex.size hE321
            obtain ⟨_, _, _, hx322, -, -, -, rfl⟩ := hi320.dep 11 23 rfl rfl
            exact OpR.skip rfl rfl hx322 hb53 ⟨rfl, Ex.refl _⟩
          · intro L323 w324 hi325
            have hE326 := hi325.ex
            have hE326z := Ex.size hE326
            obtain ⟨_, _, _, hx327, -, -, -, rfl⟩ := hi325.dep 11 23 rfl rfl
            exact OpR.skip rfl rfl hx327 hb53 ⟨rfl, Ex.refl _⟩
          · intro L328 w329 hi330
            have hE331 := hi330.ex
            have hE331z := Ex.size hE331
            obtain ⟨_, _, _, hx332, -, -, -, rfl⟩ := hi330.dep 11 23 rfl rfl
            exact OpR.skip rfl rfl hx332 hb53 ⟨rfl, Ex.refl _⟩
          · intro L333 w334 hi335
            have hE336 := hi335.ex
            have hE336z := Ex.size hE336
            obtain ⟨_, _, _, hx337, -, -, -, rfl⟩ := hi335.dep 11 23 rfl rfl
            exact OpR.skip rfl rfl hx337 hb53 ⟨rfl, Ex.refl _⟩
          · intro L338 w339 hi340
            have hE341 := hi340.ex
            have hE341z := Ex.size hE341
            obtain ⟨_, _, _, hx342, -, -, -, rfl⟩ := hi340.dep 11 23 rfl rfl
            exact OpR.skip rfl rfl hx342 hb53 ⟨rfl, Ex.refl _⟩
          · intro L343 w344 hi345
            have hE346 := hi345.ex
            have hE346z := Ex.size hE346
            obtain ⟨_, _, _, hx347, -, -, -, rfl⟩ := hi345.dep 11 23 rfl rfl
            exact OpR.skip rfl rfl hx347 hb53 ⟨rfl, Ex.refl _⟩
          · intro L348 w349 hi350
            have hE351 := hi350.ex
            have hE351z := Ex.size hE351
            obtain ⟨_, _, _, hx352, -, -, -, rfl⟩ := hi350.dep 11 23 rfl rfl
            exact OpR.skip rfl rfl hx352 hb53 ⟨rfl, Ex.refl _⟩
          · intro L353 w354 hi355
            have hE356 := hi355.ex
            have hE356z := Ex.size hE356
            obtain ⟨_, _, _, hx357, -, -, -, rfl⟩ := hi355.dep 8 20 rfl rfl
            obtain ⟨_, _, _, hx358, -, -, -, rfl⟩ := hi355.dep 20 32 rfl rfl
            obtain ⟨_, _, _, hx359, -, -, -, rfl⟩ := hi355.dep 11 23 rfl rfl
            exact OpR.want rfl rfl hx357 (not_t hb51) (Yl.sameI (yl_pick_f rfl hx359 hb53 rfl ⟨fun _ _ => rfl, rfl⟩))
          · intro L360 w361 hi362
            have hE363 := hi362.ex
            have hE363z := Ex.size hE363
            obtain ⟨_, _, _, hx364, -, -, -, rfl⟩ := hi362.dep 21 33 rfl rfl
            obtain ⟨_, _, _, hx365, -, -, -, rfl⟩ := hi362.dep 8 20 rfl rfl
            exact OpR.op' rfl (Yl.sameI (yl_pick_f rfl hx365 (not_t hb51) hx364 ⟨fun _ _ => rfl, rfl⟩))
          · intro fl369 fh370 L366 w367 hp368
            have hE371 := hp368.ex
            have hE371z := Ex.size hE371
            have hx372 := hp368.old 0 _ rfl rfl
            have hx373 := hp368.old 5 _ rfl rfl
            have hx374 := hp368.old 6 _ rfl rfl
            have hx375 := hp368.old 7 _ rfl rfl
            obtain ⟨_, hx376, rfl⟩ := hp368.new 9 21 rfl rfl
            obtain ⟨_, hx377, rfl⟩ := hp368.new 10 22 rfl rfl
            obtain ⟨_, hx378, rfl⟩ := hp368.new 11 23 rfl rfl
            obtain ⟨_, hx379, rfl⟩ := hp368.new 12 24 rfl rfl
            obtain ⟨_, hx380, rfl⟩ := hp368.new 13 25 rfl rfl
            obtain ⟨_, hx381, rfl⟩ := hp368.new 14 26 rfl rfl
            obtain ⟨_, hx382, rfl⟩ := hp368.new 15 27 rfl rfl
            obtain ⟨_, hx383, rfl⟩ := hp368.new 16 28 rfl rfl
            obtain ⟨_, hx384, rfl⟩ := hp368.new 17 29 rfl rfl
            obtain ⟨_, hx385, rfl⟩ := hp368.new 18 30 rfl rfl
            obtain ⟨_, hx386, rfl⟩ := hp368.new 19 31 rfl rfl
            obtain ⟨_, hx387, rfl⟩ := hp368.new 20 32 rfl rfl
            obtain ⟨_, hx388, rfl⟩ := hp368.new 21 33 rfl rfl
            obtain ⟨_, hx389, rfl⟩ := hp368.new 22 34 rfl rfl
            refine SeqR.done ?_
            refine tn ?_
            refine CW.sub (Sub.cons (d := 0) hx372 (Sub.cons (d := 5) hx373 (Sub.cons (d := 6) hx374 (Sub.cons (d := 7) hx375 (Sub.cons (d := 21) hx376 (Sub.cons (d := 22) hx377 (Sub.cons (d := 23) hx378 (Sub.cons (d := 24) hx379 (Sub.cons (d := 25) hx380 (Sub.cons (d := 26) hx381 (Sub.cons (d := 27) hx382 (Sub.cons (d := 28) hx383 (Sub.cons (d := 29) hx384 (Sub.cons (d := 30) hx385 (Sub.cons (d := 31) hx386 (Sub.cons (d := 32) hx387 (Sub.cons (d := 33) hx388 (Sub.cons (d := 34) hx389 (Sub.nil _))))))))))))))))))) ?_
            refine CW.cond_f rfl rfl ?_
            refine CW.skip ?_
            refine bn ?_
            refine tn ?_
            refine CW.region ?_
            refine SeqR.d1 rfl rfl rfl (yl_inc rfl rfl rfl (by omega) ?_)
            refine SeqR.d1 rfl rfl rfl (yl_move rfl rfl ?_)
            refine SeqR.done ?_
            refine tn ?_
            have hB390 : B_s_l3Writes_0 p_l k4 () = .cont () := by simp only [B_s_l3Writes_0, hb51, hb53, cond_true, cond_false, loopE_done, loopE_ret]
            have q391 := RdS.ex good_Write hf36 hE46
            have q392 := RdS.only good_Write q391 hO49 (by simp only [Iv]; omega)
            have q393 := RdS.ex good_Write q392 hE371
            have q394 := Ex.trans hf37 hE46
            have q395 := Below.only q394 hO49 (by omega)
            have q396 := Ex.trans q395 hE371
            exact ⟨p_l.length - (k4 + 1), by omega, k4 + 1, rfl, hlt39, rfl, rfl, rfl, rfl, q393, q396, (loopM.cont hlt39 hB390).symm.trans hI31⟩
      · skip
        refine CW.drawsI 23 (vgetI [DetI (.pointer (some ⟨b41, 0 + 0, none⟩)), DetI (.string (bs ((p_l.getD k4 d_Write).Key))), DetI (.pointer (some ⟨b41, 0 + 1, none⟩)), DetI (.string (bs ((p_l.getD k4 d_Write).Val))), DetI (.pointer (some ⟨b41, 0 + 2, none⟩)), DetI (.bool ((p_l.getD k4 d_Write).Gone)), DetI (.bool ((s_l3Write ((p_l.getD k4 d_Write).Key) ((p_l.getD k4 d_Write).Val) ((p_l.getD k4 d_Write).Gone)))), DetI (.bool (!(s_l3Write ((p_l.getD k4 d_Write).Key) ((p_l.getD k4 d_Write).Val) ((p_l.getD k4 d_Write).Gone)))), DetI (.bool (!(s_l3Write ((p_l.getD k4 d_Write).Key) ((p_l.getD k4 d_Write).Val) ((p_l.getD k4 d_Write).Gone)))), DetI (undef), DetI (undef), DetI (undef), DetI (undef), DetI (undef), DetI (undef), DetI (undef), DetI (undef), DetI (undef), DetI (undef), DetI (undef), DetI (undef), DetI (undef), DetI (.bool (true))]) Try.follows rfl rfl rfl rfl rfl rfl (vgetI_stable ⟨StableI.det _, StableI.det _, StableI.det _, StableI.det _, StableI.det _, StableI.det _, StableI.det _, StableI.det _, StableI.det _, StableI.det _, StableI.det _, StableI.det _, StableI.det _, StableI.det _, StableI.det _, StableI.det _, StableI.det _, StableI.det _, StableI.det _, StableI.det _, StableI.det _, StableI.det _, StableI.det _, trivial⟩) ⟨?_, ?_, ?_, ?_, ?_, ?_, ?_, ?_, ?_, ?_, ?_, ?_, ?_, ?_, ?_, ?_, ?_, ?_, ?_, ?_, ?_, ?_, ?_, trivial⟩ ?_
        · intro L398 w399 hi400
          have hE401 := hi400.ex
          have hE401z := Ex.size hE401
          have hx402 := hi400.old 4 _ rfl rfl
          exact OpR.op' rfl (Yl.sameI (yl_fieldAddr Try.fd139_0 rfl hx402 ⟨fun _ _ => rfl, rfl⟩))
        · intro L403 w404 hi405
          have hE406 := hi405.ex
          have hE406z := Ex.size hE406
          obtain ⟨_, _, _, hx407, -, -, -, rfl⟩ := hi405.dep 0 12 rfl rfl
          have q408 := Box.ex hB48 hE406
          exact OpR.op' rfl (Yl.sameI (yl_load1 Try.ty9 rfl hx407 ((q408.cell 0).trans rfl) ⟨fun _ _ => rfl, rfl⟩))
        · intro L409 w410 hi411
          have hE412 := hi411.ex
          have hE412z := Ex.size hE412
          have hx413 := hi411.old 4 _ rfl rfl
          exact OpR.op' rfl (Yl.sameI (yl_fieldAddr Try.fd139_1 rfl hx413 ⟨fun _ _ => rfl, rfl⟩))
        · intro L414 w415 hi416
          have hE417 := hi416.ex
          have hE417z := Ex.size hE417
          obtain ⟨_, _, _, hx418, -, -, -, rfl⟩ := hi416.dep 2 14 rfl rfl
          have q419 := Box.ex hB48 hE417
          exact OpR.op' rfl (Yl.sameI (yl_load1 Try.ty9 rfl hx418 ((q419.cell 1).trans rfl) ⟨fun _ _ => rfl, rfl⟩))
        · intro L420 w421 hi422
          have hE423 := hi422.ex
          have hE423z := Ex.size hE423
          have hx424 := hi422.old 4 _ rfl rfl
          exact OpR.op' rfl (Yl.sameI (yl_fieldAddr Try.fd139_2 rfl hx424 ⟨fun _ _ => rfl, rfl⟩))
        · intro L425 w426 hi427
          have hE428 := hi427.ex
          have hE428z := Ex.size hE428
          obtain ⟨_, _, _, hx429, -, -, -, rfl⟩ := hi427.dep 4 16 rfl rfl
          have q430 := Box.ex hB48 hE428
          exact OpR.op' rfl (Yl.sameI (yl_load1 Try.ty4 rfl hx429 ((q430.cell 2).trans rfl) ⟨fun _ _ => rfl, rfl⟩))
        · intro L431 w432 hi433
          have hE434 := hi433.ex
          have hE434z := Ex.size hE434
          obtain ⟨_, _, _, hx435, -, -, -, rfl⟩ := hi433.dep 1 13 rfl rfl
          obtain ⟨_, _, _, hx436, -, -, -, rfl⟩ := hi433.dep 3 15 rfl rfl
          obtain ⟨_, _, _, hx437, -, -, -, rfl⟩ := hi433.dep 5 17 rfl rfl
          refine OpR.op' rfl (yl_call Try.en128 rfl (opvs_cons hx435 (opvs_cons hx436 (opvs_cons hx437 opvs_nil))) (Cal.mono (c_s_l3Write ((p_l.getD k4 d_Write).Key) ((p_l.getD k4 d_Write).Val) ((p_l.getD k4 d_Write).Gone) ((okL.getD o2 ok_d_Write _).1) ((okL.getD o2 ok_d_Write _).2)) ?_))
          rintro v439 w438 ⟨rfl, hE440⟩
          exact ⟨rfl, hE440⟩
        · intro L441 w442 hi443
          have hE444 := hi443.ex
          have hE444z := Ex.size hE444
          obtain ⟨_, _, _, hx445, -, -, -, rfl⟩ := hi443.dep 6 18 rfl rfl
          exact OpR.op' rfl (Yl.sameI (yl_not rfl hx445 ⟨fun _ _ => rfl, rfl⟩))
        · intro L446 w447 hi448
          have hE449 := hi448.ex
          have hE449z := Ex.size hE449
          obtain ⟨_, _, _, hx450, -, -, -, rfl⟩ := hi448.dep 7 19 rfl rfl
          exact OpR.op' rfl (Yl.sameI (yl_move rfl hx450 ⟨fun _ _ => rfl, rfl⟩))
        · intro L451 w452 hi453
          have hE454 := hi453.ex
          have hE454z := Ex.size hE454
          obtain ⟨_, _, _, hx455, -, -, -, rfl⟩ := hi453.dep 8 20 rfl rfl
          exact OpR.skip rfl rfl hx455 (not_f hb51) ⟨rfl, Ex.refl _⟩
        · intro L456 w457 hi458
          have hE459 := hi458.ex
          have hE459z := Ex.size hE459
          obtain ⟨_, _, _, hx460, -, -, -, rfl⟩ := hi458.dep 8 20 rfl rfl
          exact OpR.skip rfl rfl hx460 (not_f hb51) ⟨rfl, Ex.refl _⟩
        · intro L461 w462 hi463
          have hE464 := hi463.ex
          have hE464z := Ex.size hE464
          obtain ⟨_, _, _, hx465, -, -, -, rfl⟩ := hi463.dep 8 20 rfl rfl
          exact OpR.skip rfl rfl hx465 (not_f hb51) ⟨rfl, Ex.refl _⟩
        · intro L466 w467 hi468
          have hE469 := hi468.ex
          have hE469z := Ex.size hE469
          obtain ⟨_, _, _, hx470, -, -, -, rfl⟩ := hi468.dep 11 23 rfl rfl
          exact OpR.undef rfl rfl hx470 ⟨rfl, Ex.refl _⟩
        · intro L471 w472 hi473
          have hE474 := hi473.ex
          have hE474z := Ex.size hE474
          obtain ⟨_, _, _, hx475, -, -, -, rfl⟩ := hi473.dep 11 23 rfl rfl
          exact OpR.undef rfl rfl hx475 ⟨rfl, Ex.refl _⟩
        · intro L476 w477 hi478
          have hE479 := hi478.ex
          have hE479z := Ex.size hE479
          obtain ⟨_, _, _, hx480, -, -, -, rfl⟩ := hi478.dep 11 23 rfl rfl
          exact OpR.undef rfl rfl hx480 ⟨rfl, Ex.refl _⟩
        · intro L481 w482 hi483
          have hE484 := hi483.ex
          have hE484z := Ex.size hE484
          obtain ⟨_, _, _, hx485, -, -, -, rfl⟩ := hi483.dep 11 23 rfl rfl
          exact OpR.undef rfl rfl hx485 ⟨rfl, Ex.refl _⟩
        · intro L486 w487 hi488
          have hE489 := hi488.ex
          have hE489z := Ex.size hE489
          obtain ⟨_, _, _, hx490, -, -, -, rfl⟩ := hi488.dep 11 23 rfl rfl
          exact OpR.undef rfl rfl hx490 ⟨rfl, Ex.refl _⟩
        · intro L491 w492 hi493
          have hE494 := hi493.ex
          have hE494z := Ex.size hE494
          obtain ⟨_, _, _, hx495, -, -, -, rfl⟩ := hi493.dep 11 23 rfl rfl
          exact OpR.undef rfl rfl hx495 ⟨rfl, Ex.refl _⟩
        · intro L496 w497 hi498
          have hE499 := hi498.ex
          have hE499z := Ex.size hE499
          obtain ⟨_, _, _, hx500, -, -, -, rfl⟩ := hi498.dep 11 23 rfl rfl
          exact OpR.undef rfl rfl hx500 ⟨rfl, Ex.refl _⟩
        · intro L501 w502 hi503
          have hE504 := hi503.ex
          have hE504z := Ex.size hE504
          obtain ⟨_, _, _, hx505, -, -, -, rfl⟩ := hi503.dep 11 23 rfl rfl
          exact OpR.undef rfl rfl hx505 ⟨rfl, Ex.refl _⟩
        · intro L506 w507 hi508
          have hE509 := hi508.ex
          have hE509z := Ex.size hE509
          obtain ⟨_, _, _, hx510, -, -, -, rfl⟩ := hi508.dep 11 23 rfl rfl
          exact OpR.undef rfl rfl hx510 ⟨rfl, Ex.refl _⟩
        · intro L511 w512 hi513
          have hE514 := hi513.ex
          have hE514z := Ex.size hE514
          obtain ⟨_, _, _, hx515, -, -, -, rfl⟩ := hi513.dep 8 20 rfl rfl
          exact OpR.skip rfl rfl hx515 (not_f hb51) ⟨rfl, Ex.refl _⟩
        · intro L516 w517 hi518
          have hE519 := hi518.ex
          have hE519z := Ex.size hE519
          obtain ⟨_, _, _, hx520, -, -, -, rfl⟩ := hi518.dep 21 33 rfl rfl
          obtain ⟨_, _, _, hx521, -, -, -, rfl⟩ := hi518.dep 8 20 rfl rfl
          exact OpR.op' rfl (Yl.sameI (yl_pick_t rfl hx521 (not_f hb51) rfl ⟨fun _ _ => rfl, rfl⟩))
        · intro fl525 fh526 L522 w523 hp524
          have hE527 := hp524.ex
          have hE527z := Ex.size hE527
          have hx528 := hp524.old 0 _ rfl rfl
          have hx529 := hp524.old 5 _ rfl rfl
          have hx530 := hp524.old 6 _ rfl rfl
          have hx531 := hp524.old 7 _ rfl rfl
          obtain ⟨_, hx532, rfl⟩ := hp524.new 9 21 rfl rfl
          obtain ⟨_, hx533, rfl⟩ := hp524.new 10 22 rfl rfl
          obtain ⟨_, hx534, rfl⟩ := hp524.new 11 23 rfl rfl
          obtain ⟨_, hx535, rfl⟩ := hp524.new 12 24 rfl rfl
          obtain ⟨_, hx536, rfl⟩ := hp524.new 13 25 rfl rfl
          obtain ⟨_, hx537, rfl⟩ := hp524.new 14 26 rfl rfl
          obtain ⟨_, hx538, rfl⟩ := hp524.new 15 27 rfl rfl
          obtain ⟨_, hx539, rfl⟩ := hp524.new 16 28 rfl rfl
          obtain ⟨_, hx540, rfl⟩ := hp524.new 17 29 rfl rfl
          obtain ⟨_, hx541, rfl⟩ := hp524.new 18 30 rfl rfl
          obtain ⟨_, hx542, rfl⟩ := hp524.new 19 31 rfl rfl
          obtain ⟨_, hx543, rfl⟩ := hp524.new 20 32 rfl rfl
          obtain ⟨_, hx544, rfl⟩ := hp524.new 21 33 rfl rfl
          obtain ⟨_, hx545, rfl⟩ := hp524.new 22 34 rfl rfl
          refine SeqR.done ?_
          refine tn ?_
          refine CW.sub (Sub.cons (d := 0) hx528 (Sub.cons (d := 5) hx529 (Sub.cons (d := 6) hx530 (Sub.cons (d := 7) hx531 (Sub.cons (d := 21) hx532 (Sub.cons (d := 22) hx533 (Sub.cons (d := 23) hx534 (Sub.cons (d := 24) hx535 (Sub.cons (d := 25) hx536 (Sub.cons (d := 26) hx537 (Sub.cons (d := 27) hx538 (Sub.cons (d := 28) hx539 (Sub.cons (d := 29) hx540 (Sub.cons (d := 30) hx541 (Sub.cons (d := 31) hx542 (Sub.cons (d := 32) hx543 (Sub.cons (d := 33) hx544 (Sub.cons (d := 34) hx545 (Sub.nil _))))))))))))))))))) ?_
          refine CW.cond_t rfl rfl ?_
          refine CW.seq ?_
          refine CW.region ?_
          refine SeqR.d1 rfl rfl rfl (yl_assign rfl rfl ?_)
          refine SeqR.done ?_
          refine tn ?_
          refine CW.ret ?_
          refine br ?_
          refine tr ?_
          refine tr ?_
          have hB547 : B_s_l3Writes_0 p_l k4 () = .ret false := by simp only [B_s_l3Writes_0, hb51, cond_true, cond_false, loopE_done, loopE_ret]
          have hL546 : loopM (B_s_l3Writes_0 p_l) (p_l.length - 0) 0 () = .ret false := hI31.symm.trans (loopM.ret hlt39 hB547)
          refine br ?_
          refine tr ?_
          refine rr rfl (.cons rfl .nil) ?_
          have hM548 : (s_l3Writes p_l) = (false) := by simp only [s_l3Writes, hb51, hL546, cond_true, cond_false, loopE_done, loopE_ret]
          rw [hM548]
          have q549 := Ex.trans hf37 hE46
          have q550 := Below.only q549 hO49 (by omega)
          have q551 := Ex.trans q550 hE527
          exact ⟨rfl, q551⟩
    · skip
      refine CW.seq ?_
      refine CW.region ?_
      refine SeqR.d1 rfl rfl rfl (yl_lss rfl rfl rfl ?_)
      refine SeqR.done ?_
      refine tn ?_
      refine CW.seq ?_
      refine CW.cond_f rfl (lt_f hlt39) ?_
      refine CW.exit ?_
      refine tx ?_
      refine tx ?_
      have hL552 : loopM (B_s_l3Writes_0 p_l) (p_l.length - 0) 0 () = .done () := hI31.symm.trans (loopM.stop hlt39)
      refine bx ?_
      refine tn ?_
      refine CW.seq ?_
      refine CW.region ?_
      refine SeqR.d1 rfl rfl rfl (yl_move rfl rfl ?_)
      refine SeqR.d1 rfl rfl rfl (yl_len Try.un67 rfl rfl ?_)
      refine SeqR.d1 rfl rfl rfl (yl_leq rfl rfl rfl ?_)
      refine SeqR.d1 rfl rfl rfl (yl_assign rfl rfl ?_)
      refine SeqR.done ?_
      refine tn ?_
      refine CW.ret ?_
      refine rr rfl (.cons rfl .nil) ?_
      have hM553 : (s_l3Writes p_l) = (decide ((p_l.length : Int) ≤ 24)) := by simp only [s_l3Writes, hL552, cond_true, cond_false, loopE_done, loopE_ret]
      rw [hM553]
      exact ⟨rfl, hf37⟩
set_option maxRecDepth 100000 in
set_option maxHeartbeats 2000000 in
theorem c_s_l31Copy {A1 : Option Addr} {c1 : Nat} {w : World} (p_c : DCopy) (h1 : RdS w (Iv 0 w.heap.size) (RF e_Write) 3 A1 p_c.Rows.length c1 p_c.Rows) (o2 : ok_Copy p_c) : Cal Try.prog 84 #[.agg #[.int .i64 (p_c.Time), .slice A1 p_c.Rows.length c1]] w fun v w' => v = .bool ((s_l31Copy p_c)) ∧ Ex w w' := by
  have hol3 := o2.1
  refine Cal.of (vs := [.agg #[.int .i64 (p_c.Time), .slice A1 p_c.Rows.length c1]]) Try.func84 rfl Try.ntmps84 rfl ?_
  refine CW.seq ?_
  refine CW.region ?_
  refine SeqR.d1 rfl rfl rfl (yl_box (cs := [.int .i64 (p_c.Time), .slice A1 p_c.Rows.length c1]) rfl rfl rfl ?_)
  intro b4 w5 hs6 hz7 hB8 hE9
  refine SeqR.d1 rfl rfl rfl (yl_assign rfl rfl ?_)
  refine SeqR.done ?_
  refine tn ?_
  refine CW.seq ?_
  refine CW.seq ?_
  refine CW.region ?_
  refine SeqR.d1 rfl rfl rfl (yl_assign rfl rfl ?_)
  refine SeqR.done ?_
  refine tn ?_
  refine CW.block ?_
  have q14 := RdS.ex good_Write h1 hE9
  have q15 := Ex.trans (Ex.refl w) hE9
  refine CW.loop (fun m11 L12 w13 => ∃ (k10 : Nat), m11 = p_c.Rows.length - k10 ∧ k10 ≤ p_c.Rows.length ∧ lkp L12 1 = some (.pointer (some ⟨b4, 0, none⟩)) ∧ lkp L12 3 = some (.int .i64 ((k10 : Int))) ∧ Box w13 b4 69 [.int .i64 (p_c.Time), .slice A1 p_c.Rows.length c1] ∧ RdS w13 (Iv 0 w.heap.size) (RF e_Write) 3 A1 p_c.Rows.length c1 p_c.Rows ∧ Ex w w13 ∧ loopM (B_s_l31Copy_0 p_c) (p_c.Rows.length - k10) k10 () = loopM (B_s_l31Copy_0 p_c) (p_c.Rows.length - 0) 0 ()) (p_c.Rows.length - 0) ?_ ?_
  · exact ⟨0, rfl, Nat.zero_le _, rfl, rfl, hB8, q14, q15, rfl⟩
  · rintro m16 L17 w18 ⟨k10, rfl, hk19, hl21, hl22, hf23, hf24, hf25, hI20⟩
    refine CW.sub (Sub.cons hl21 (Sub.cons hl22 (Sub.nil _))) ?_
    have hf23z := Box.lt hf23
    have hf25z := Ex.size hf25
    have hbg26 := RdS.big hf24
    rcases Nat.lt_or_ge k10 p_c.Rows.length with hlt27 | hlt27
    · skip
      refine CW.seq ?_
      refine CW.seq ?_
      refine CW.region ?_
      refine SeqR.d1 rfl rfl rfl (yl_move rfl rfl ?_)
      refine SeqR.d1 rfl rfl rfl (yl_fieldAddr Try.fd69_1 rfl rfl ?_)
      refine SeqR.d1 rfl rfl rfl (yl_load1 Try.ty67 rfl rfl ((hf23.cell 1).trans rfl) ?_)
      refine SeqR.d1 rfl rfl rfl (yl_len Try.un67 rfl rfl ?_)
      refine SeqR.d1 rfl rfl rfl (yl_lss rfl rfl rfl ?_)
      refine SeqR.done ?_
      refine tn ?_
      refine CW.cond_t rfl (lt_t hlt27) ?_
      refine CW.skip ?_
      refine tn ?_
      refine CW.seq ?_
      refine CW.block ?_
      refine CW.seq ?_
      refine CW.region ?_
      refine SeqR.d1 rfl rfl rfl (yl_fieldAddr Try.fd69_1 rfl rfl ?_)
      refine SeqR.d1 rfl rfl rfl (yl_load1 Try.ty67 rfl rfl ((hf23.cell 1).trans rfl) ?_)
      refine SeqR.d1 rfl rfl rfl (yl_move rfl rfl ?_)
      obtain ⟨eb28, eo28, ec28, eA28, eS28, ebl28, el28, eR28, eC28⟩ := RdS.atD hf24 d_Write (i := k10) (by first | omega | assumption)
      obtain rfl := eR28
      have eC28 : Cells w18 eb28 (eo28 + k10 * 3) [.string (bs ((p_c.Rows.getD k10 d_Write).Key)), .string (bs ((p_c.Rows.getD k10 d_Write).Val)), .bool ((p_c.Rows.getD k10 d_Write).Gone)] := eC28
      refine SeqR.d1 rfl rfl rfl (yl_indexAddrN Try.un67 Try.ty139 rfl rfl rfl eA28 (by first | omega | assumption | (simp only [IntKind.wrap_i64] at *; omega)) ?_)
      refine SeqR.d1 rfl rfl rfl (yl_fieldAddr Try.fd139_2 rfl rfl ?_)
      refine SeqR.d1 rfl rfl rfl (yl_load1 Try.ty4 rfl rfl (eC28 2 _ rfl) ?_)
      refine SeqR.done ?_
      refine tn ?_
      refine bcase ((p_c.Rows.getD k10 d_Write).Gone) (fun hb29 => ?_) (fun hb29 => ?_)
      · skip
        refine CW.cond_t rfl hb29 ?_
        refine CW.seq ?_
        refine CW.region ?_
        refine SeqR.d1 rfl rfl rfl (yl_assign rfl rfl ?_)
        refine SeqR.done ?_
        refine tn ?_
        refine CW.ret ?_
        refine br ?_
        refine tr ?_
        refine tr ?_
        have hB31 : B_s_l31Copy_0 p_c k10 () = .ret false := by simp only [B_s_l31Copy_0, hb29, cond_true, cond_false, loopE_done, loopE_ret]
        have hL30 : loopM (B_s_l31Copy_0 p_c) (p_c.Rows.length - 0) 0 () = .ret false := hI20.symm.trans (loopM.ret hlt27 hB31)
        refine br ?_
        refine tr ?_
        refine rr rfl (.cons rfl .nil) ?_
        have hM32 : (s_l31Copy p_c) = (false) := by simp only [s_l31Copy, hb29, hL30, cond_true, cond_false, loopE_done, loopE_ret]
        rw [hM32]
        exact ⟨rfl, hf25⟩
      · skip
        refine CW.cond_f rfl hb29 ?_
        refine CW.skip ?_
        refine bn ?_
        refine tn ?_
        refine CW.region ?_
        refine SeqR.d1 rfl rfl rfl (yl_move rfl rfl ?_)
        refine SeqR.d1 rfl rfl rfl (yl_inc rfl rfl rfl (by omega) ?_)
        refine SeqR.d1 rfl rfl rfl (yl_assign rfl rfl ?_)
        refine SeqR.done ?_
        refine tn ?_
        have hB33 : B_s_l31Copy_0 p_c k10 () = .cont () := by simp only [B_s_l31Copy_0, hb29, cond_true, cond_false, loopE_done, loopE_ret]
        exact ⟨p_c.Rows.length - (k10 + 1), by omega, k10 + 1, rfl, hlt27, rfl, rfl, hf23, hf24, hf25, (loopM.cont hlt27 hB33).symm.trans hI20⟩
    · skip
      refine CW.seq ?_
      refine CW.seq ?_
      refine CW.region ?_
      refine SeqR.d1 rfl rfl rfl (yl_move rfl rfl ?_)
      refine SeqR.d1 rfl rfl rfl (yl_fieldAddr Try.fd69_1 rfl rfl ?_)
      refine SeqR.d1 rfl rfl rfl (yl_load1 Try.ty67 rfl rfl ((hf23.cell 1).trans rfl) ?_)
      refine SeqR.d1 rfl rfl rfl (yl_len Try.un67 rfl rfl ?_)
      refine SeqR.d1 rfl rfl rfl (yl_lss rfl rfl rfl ?_)
      refine SeqR.done ?_
      refine tn ?_
      refine CW.cond_f rfl (lt_f hlt27) ?_
      refine CW.exit ?_
      refine tx ?_
      refine tx ?_
      have hL34 : loopM (B_s_l31Copy_0 p_c) (p_c.Rows.length - 0) 0 () = .done () := hI20.symm.trans (loopM.stop hlt27)
      refine bx ?_
      refine tn ?_
      refine CW.seq ?_
      refine CW.region ?_
      refine SeqR.d1 rfl rfl rfl (yl_fieldAddr Try.fd69_0 rfl rfl ?_)
      refine SeqR.d1 rfl rfl rfl (yl_load1 Try.ty3 rfl rfl ((hf23.cell 0).trans rfl) ?_)
      refine SeqR.d1 rfl rfl rfl (yl_call Try.en50 rfl (opvs_cons rfl (opvs_cons rfl (opvs_cons rfl opvs_nil))) (Cal.mono (c_s_l1In p_c.Time 0 100000) ?_))
      rintro v36 w35 ⟨rfl, hE37⟩
      have hE37z := Ex.size hE37
      refine SeqR.d1 rfl rfl rfl (yl_move rfl rfl ?_)
      refine bcase (s_l1In p_c.Time 0 100000) (fun hb38 => ?_) (fun hb38 => ?_)
      · have hb38p := f_l1In hb38
        refine SeqR.y rfl rfl rfl rfl rfl hb38 (yl_fieldAddr Try.fd69_1 rfl rfl ?_)
        have q39 := Box.ex hf23 hE37
        refine SeqR.y rfl rfl rfl rfl rfl hb38 (yl_load1 Try.ty67 rfl rfl ((q39.cell 1).trans rfl) ?_)
        have q40 := RdS.ex good_Write hf24 hE37
        refine SeqR.y rfl rfl rfl rfl rfl hb38 (yl_call Try.en109 rfl (opvs_cons rfl opvs_nil) (Cal.mono (c_s_l3Writes p_c.Rows (RdS.up q40 good_Write) o2) ?_))
        rintro v42 w41 ⟨rfl, hE43⟩
        have hE43z := Ex.size hE43
        refine SeqR.d1 rfl rfl rfl (yl_pick_t rfl rfl hb38 rfl ?_)
        refine SeqR.d1 rfl rfl rfl (yl_move rfl rfl ?_)
        refine bcase (s_l3Writes p_c.Rows) (fun hb44 => ?_) (fun hb44 => ?_)
        · skip
          refine SeqR.y rfl rfl rfl rfl rfl hb44 (yl_fieldAddr Try.fd69_0 rfl rfl ?_)
          have q45 := Box.ex q39 hE43
          refine SeqR.y rfl rfl rfl rfl rfl hb44 (yl_load1 Try.ty3 rfl rfl ((q45.cell 0).trans rfl) ?_)
          refine SeqR.y rfl rfl rfl rfl rfl hb44 (yl_gtr rfl rfl rfl ?_)
          refine SeqR.y rfl rfl rfl rfl rfl hb44 (yl_move rfl rfl ?_)
          refine bcase (decide (0 < p_c.Time)) (fun hb46 => ?_) (fun hb46 => ?_)
          · have hb46p := dec_t hb46
            refine SeqR.z rfl rfl rfl rfl rfl hb46 ?_
            refine SeqR.z rfl rfl rfl rfl rfl hb46 ?_
            refine SeqR.z rfl rfl rfl rfl rfl hb46 ?_
            refine SeqR.z rfl rfl rfl rfl rfl hb46 ?_
            refine SeqR.y rfl rfl rfl rfl rfl hb44 (yl_pick_t rfl rfl hb46 rfl ?_)
            refine SeqR.d1 rfl rfl rfl (yl_pick_t rfl rfl hb44 rfl ?_)
            refine SeqR.d1 rfl rfl rfl (yl_assign rfl rfl ?_)
            refine SeqR.done ?_
            refine tn ?_
            refine CW.ret ?_
            refine rr rfl (.cons rfl .nil) ?_
            have hM47 : (s_l31Copy p_c) = (true) := by simp only [s_l31Copy, hb38, hb44, hb46, hL34, cond_true, cond_false, loopE_done, loopE_ret]
            rw [hM47]
            have q48 := Ex.trans hf25 hE37
            have q49 := Ex.trans q48 hE43
            exact ⟨rfl, q49⟩
          · have hb46p := dec_f hb46
            refine SeqR.y rfl rfl rfl rfl rfl hb46 (yl_fieldAddr Try.fd69_1 rfl rfl ?_)
            refine SeqR.y rfl rfl rfl rfl rfl hb46 (yl_load1 Try.ty67 rfl rfl ((q45.cell 1).trans rfl) ?_)
            refine SeqR.y rfl rfl rfl rfl rfl hb46 (yl_len Try.un67 rfl rfl ?_)
            refine SeqR.y rfl rfl rfl rfl rfl hb46 (yl_eql rfl rfl rfl ?_)
            refine SeqR.y rfl rfl rfl rfl rfl hb44 (yl_pick_f rfl rfl hb46 rfl ?_)
            refine SeqR.d1 rfl rfl rfl (yl_pick_t rfl rfl hb44 rfl ?_)
            refine SeqR.d1 rfl rfl rfl (yl_assign rfl rfl ?_)
            refine SeqR.done ?_
            refine tn ?_
            refine CW.ret ?_
            refine rr rfl (.cons rfl .nil) ?_
            have hM50 : (s_l31Copy p_c) = (decide ((p_c.Rows.length : Int) = 0)) := by simp only [s_l31Copy, hb38, hb44, hb46, hL34, cond_true, cond_false, loopE_done, loopE_ret]
            rw [hM50]
            have q51 := Ex.trans hf25 hE37
            have q52 := Ex.trans q51 hE43
            exact ⟨rfl, q52⟩
        · skip
          refine SeqR.z rfl rfl rfl rfl rfl hb44 ?_
          refine SeqR.z rfl rfl rfl rfl rfl hb44 ?_
          refine SeqR.z rfl rfl rfl rfl rfl hb44 ?_
          refine SeqR.z rfl rfl rfl rfl rfl hb44 ?_
          refine SeqR.q rfl rfl rfl rfl rfl ?_
          refine SeqR.q rfl rfl rfl rfl rfl ?_
          refine SeqR.q rfl rfl rfl rfl rfl ?_
          refine SeqR.q rfl rfl rfl rfl rfl ?_
          refine SeqR.z rfl rfl rfl rfl rfl hb44 ?_
          refine SeqR.d1 rfl rfl rfl (yl_pick_f rfl rfl hb44 rfl ?_)
          refine SeqR.d1 rfl rfl rfl (yl_assign rfl rfl ?_)
          refine SeqR.done ?_
          refine tn ?_
          refine CW.ret ?_
          refine rr rfl (.cons rfl .nil) ?_
          have hM53 : (s_l31Copy p_c) = (false) := by simp only [s_l31Copy, hb38, hb44, hL34, cond_true, cond_false, loopE_done, loopE_ret]
          rw [hM53]
          have q54 := Ex.trans hf25 hE37
          have q55 := Ex.trans q54 hE43
          exact ⟨rfl, q55⟩
      · skip
        refine SeqR.z rfl rfl rfl rfl rfl hb38 ?_
        refine SeqR.z rfl rfl rfl rfl rfl hb38 ?_
        refine SeqR.z rfl rfl rfl rfl rfl hb38 ?_
        refine SeqR.d1 rfl rfl rfl (yl_pick_f rfl rfl hb38 rfl ?_)
        refine SeqR.d1 rfl rfl rfl (yl_move rfl rfl ?_)
        refine SeqR.z rfl rfl rfl rfl rfl rfl ?_
        refine SeqR.z rfl rfl rfl rfl rfl rfl ?_
        refine SeqR.z rfl rfl rfl rfl rfl rfl ?_
        refine SeqR.z rfl rfl rfl rfl rfl rfl ?_
        refine SeqR.q rfl rfl rfl rfl rfl ?_
        refine SeqR.q rfl rfl rfl rfl rfl ?_
        refine SeqR.q rfl rfl rfl rfl rfl ?_
        refine SeqR.q rfl rfl rfl rfl rfl ?_
        refine SeqR.z rfl rfl rfl rfl rfl rfl ?_
        refine SeqR.d1 rfl rfl rfl (yl_pick_f rfl rfl rfl rfl ?_)
        refine SeqR.d1 rfl rfl rfl (yl_assign rfl rfl ?_)
        refine SeqR.done ?_
        refine tn ?_
        refine CW.ret ?_
        refine rr rfl (.cons rfl .nil) ?_
        have hM56 : (s_l31Copy p_c) = (false) := by simp only [s_l31Copy, hb38, hL34, cond_true, cond_false, loopE_done, loopE_ret]
        rw [hM56]
        have q57 := Ex.trans hf25 hE37
        exact ⟨rfl, q57⟩
set_option maxRecDepth 100000 in
set_option maxHeartbeats 2000000 in
theorem c_s_GoodCopy {A1 : Option Addr} {c1 : Nat} {w : World} (p_c : DCopy) (h1 : RdS w (Iv 0 w.heap.size) (RF e_Write) 3 A1 p_c.Rows.length c1 p_c.Rows) (o2 : ok_Copy p_c) : Cal Try.prog 38 #[.agg #[.int .i64 (p_c.Time), .slice A1 p_c.Rows.length c1]] w fun v w' => v = .bool ((s_GoodCopy p_c)) ∧ Ex w w' := by
  have hol3 := o2.1
  refine Cal.of (vs := [.agg #[.int .i64 (p_c.Time), .slice A1 p_c.Rows.length c1]]) Try.func38 rfl Try.ntmps38 rfl ?_
  refine CW.seq ?_
  refine CW.region ?_
  refine SeqR.d1 rfl rfl rfl (yl_box (cs := [.int .i64 (p_c.Time), .slice A1 p_c.Rows.length c1]) rfl rfl rfl ?_)
  intro b4 w5 hs6 hz7 hB8 hE9
  refine SeqR.d1 rfl rfl rfl (yl_assign rfl rfl ?_)
  refine SeqR.done ?_
  refine tn ?_
  refine CW.seq ?_
  refine CW.region ?_
  refine SeqR.d1 rfl rfl rfl (yl_loadN (cs := [.int .i64 (p_c.Time), .slice A1 p_c.Rows.length c1]) Try.ty69 rfl rfl (hB8.cells (n := 2) rfl) rfl ?_)
  have q10 := RdS.ex good_Write h1 hE9
  refine SeqR.d1 rfl rfl rfl (yl_call Try.en84 rfl (opvs_cons rfl opvs_nil) (Cal.mono (c_s_l31Copy p_c (RdS.up q10 good_Write) o2) ?_))
  rintro v12 w11 ⟨rfl, hE13⟩
  have hE13z := Ex.size hE13
  refine SeqR.d1 rfl rfl rfl (yl_assign rfl rfl ?_)
  refine SeqR.done ?_
  refine tn ?_
  refine CW.ret ?_
  refine rr rfl (.cons rfl .nil) ?_
  have hM14 : (s_GoodCopy p_c) = ((s_l31Copy p_c)) := by simp only [s_GoodCopy, cond_true, cond_false, loopE_done, loopE_ret]
  rw [hM14]
  have q15 := Ex.trans (Ex.refl w) hE9
  have q16 := Ex.trans q15 hE13
  exact ⟨rfl, q16⟩
set_option maxRecDepth 100000 in
set_option maxHeartbeats 2000000 in
theorem c_l_toWrite {w : World} (p_a : DWrite) (o1 : ok_Write p_a) : Cal Try.prog 110 #[.agg #[.string (bs (p_a.Key)), .string (bs (p_a.Val)), .bool (p_a.Gone)]] w fun v w' => v = .agg #[.string (bs (p_a.Key)), .string (bs (p_a.Val)), .bool (p_a.Gone)] ∧ Ex w w' := by
  have hol2 : p_a.Key.length ≤ 1073741824 := o1.1
  have hol3 : p_a.Val.length ≤ 1073741824 := o1.2
  refine Cal.of (vs := [.agg #[.string (bs (p_a.Key)), .string (bs (p_a.Val)), .bool (p_a.Gone)]]) Try.func110 rfl Try.ntmps110 rfl ?_
  refine CW.seq ?_
  refine CW.region ?_
  refine SeqR.d1 rfl rfl rfl (yl_box (cs := [.string (bs (p_a.Key)), .string (bs (p_a.Val)), .bool (p_a.Gone)]) rfl rfl rfl ?_)
  intro b4 w5 hs6 hz7 hB8 hE9
  refine SeqR.d1 rfl rfl rfl (yl_alloc Try.ty139 (cs := [.string (bs (([] : Str))), .string (bs (([] : Str))), .bool (false)]) rfl rfl ?_)
  intro b10 w11 hs12 hz13 hB14 hE15
  refine SeqR.done ?_
  refine tn ?_
  refine CW.seq ?_
  refine CW.region ?_
  refine SeqR.d1 rfl rfl rfl (yl_alloc Try.ty139 (cs := [.string (bs (([] : Str))), .string (bs (([] : Str))), .bool (false)]) rfl rfl ?_)
  intro b16 w17 hs18 hz19 hB20 hE21
  refine SeqR.done ?_
  refine tn ?_
  refine CW.seq ?_
  refine CW.region ?_
  refine SeqR.d1 rfl rfl rfl (yl_fieldAddr Try.fd138_0 rfl rfl ?_)
  have q22 := Box.ex hB8 hE15
  have q23 := Box.ex q22 hE21
  refine SeqR.d1 rfl rfl rfl (yl_load1 Try.ty9 rfl rfl ((q23.cell 0).trans rfl) ?_)
  refine SeqR.d1 rfl rfl rfl (yl_fieldAddr Try.fd139_0 rfl rfl ?_)
  refine SeqR.u rfl rfl (yl_store (vs := [.string (bs (p_a.Key))]) Try.ty9 rfl rfl rfl rfl rfl rfl hB20 (Nat.le_of_ble_eq_true rfl) ?_)
  intro w24 hB25 hO26
  have hB25 : Box w24 b16 139 [.string (bs (p_a.Key)), .string (bs (([] : Str))), .bool (false)] := hB25
  have hO26z := hO26.size
  refine SeqR.done ?_
  refine tn ?_
  refine CW.seq ?_
  refine CW.region ?_
  refine SeqR.d1 rfl rfl rfl (yl_fieldAddr Try.fd138_1 rfl rfl ?_)
  have q27 := Box.only q23 hO26 (by omega)
  refine SeqR.d1 rfl rfl rfl (yl_load1 Try.ty9 rfl rfl ((q27.cell 1).trans rfl) ?_)
  refine SeqR.d1 rfl rfl rfl (yl_fieldAddr Try.fd139_1 rfl rfl ?_)
  refine SeqR.u rfl rfl (yl_store (vs := [.string (bs (p_a.Val))]) Try.ty9 rfl rfl rfl rfl rfl rfl hB25 (Nat.le_of_ble_eq_true rfl) ?_)
  intro w28 hB29 hO30
  have hB29 : Box w28 b16 139 [.string (bs (p_a.Key)), .string (bs (p_a.Val)), .bool (false)] := hB29
  have hO30z := hO30.size
  refine SeqR.done ?_
  refine tn ?_
  refine CW.seq ?_
  refine CW.region ?_
  refine SeqR.d1 rfl rfl rfl (yl_fieldAddr Try.fd138_2 rfl rfl ?_)
  have q31 := Box.only q27 hO30 (by omega)
  refine SeqR.d1 rfl rfl rfl (yl_load1 Try.ty4 rfl rfl ((q31.cell 2).trans rfl) ?_)
  refine SeqR.d1 rfl rfl rfl (yl_fieldAddr Try.fd139_2 rfl rfl ?_)
  refine SeqR.u rfl rfl (yl_store (vs := [.bool (p_a.Gone)]) Try.ty4 rfl rfl rfl rfl rfl rfl hB29 (Nat.le_of_ble_eq_true rfl) ?_)
  intro w32 hB33 hO34
  have hB33 : Box w32 b16 139 [.string (bs (p_a.Key)), .string (bs (p_a.Val)), .bool (p_a.Gone)] := hB33
  have hO34z := hO34.size
  refine SeqR.done ?_
  refine tn ?_
  refine CW.seq ?_
  refine CW.region ?_
  refine SeqR.d1 rfl rfl rfl (yl_loadN (cs := [.string (bs (p_a.Key)), .string (bs (p_a.Val)), .bool (p_a.Gone)]) Try.ty139 rfl rfl (hB33.cells (n := 3) rfl) rfl ?_)
  have q35 := Box.ex hB14 hE21
  have q36 := Box.only q35 hO26 (by omega)
  have q37 := Box.only q36 hO30 (by omega)
  have q38 := Box.only q37 hO34 (by omega)
  refine SeqR.u rfl rfl (yl_store (vs := [.string (bs (p_a.Key)), .string (bs (p_a.Val)), .bool (p_a.Gone)]) Try.ty139 rfl rfl rfl rfl rfl rfl q38 (Nat.le_of_ble_eq_true rfl) ?_)
  intro w39 hB40 hO41
  have hB40 : Box w39 b10 139 [.string (bs (p_a.Key)), .string (bs (p_a.Val)), .bool (p_a.Gone)] := hB40
  have hO41z := hO41.size
  refine SeqR.done ?_
  refine tn ?_
  refine CW.ret ?_
  refine rr rfl (.cons ⟨_, rfl, run_loadN Try.ty139 (cs := [.string (bs (p_a.Key)), .string (bs (p_a.Val)), .bool (p_a.Gone)]) rfl (hB40.cells (n := 3) rfl)⟩ .nil) ?_
  have hM42 : p_a = (p_a) := (to_Write _).symm.trans <| by simp only [l_toWrite, cond_true, cond_false, loopE_done, loopE_ret]
  rw [hM42]
  have q43 := Ex.trans (Ex.refl w) hE9
  have q44 := Ex.trans q43 hE15
  have q45 := Ex.trans q44 hE21
  have q46 := Below.only q45 hO26 (by omega)
  have q47 := Below.only q46 hO30 (by omega)
  have q48 := Below.only q47 hO34 (by omega)
  have q49 := Below.only q48 hO41 (by omega)
  exact ⟨rfl, q49⟩
set_option maxRecDepth 100000 in
set_option maxHeartbeats 2000000 in
theorem c_l_toWriteS {A1 : Option Addr} {c1 : Nat} {w : World} (p_a : List DWrite) (h1 : RdS w (Iv 0 w.heap.size) (RF e_Write) 3 A1 p_a.length c1 p_a) (o2 : (okL ok_Write) p_a) : Cal Try.prog 85 #[.slice A1 p_a.length c1] w fun v w' => ∃ A_1 c_1, v = .slice A_1 p_a.length c_1 ∧ RdS w' (Iv w.heap.size w'.heap.size) (RF e_Write) 3 A_1 p_a.length c_1 p_a ∧ Ex w w' := by
  have hol3 := o2.1
  refine Cal.of (vs := [.slice A1 p_a.length c1]) Try.func85 rfl Try.ntmps85 rfl ?_
  refine CW.seq ?_
  refine CW.region ?_
  refine SeqR.d1 rfl rfl rfl (yl_assign rfl rfl ?_)
  refine SeqR.done ?_
  refine tn ?_
  refine CW.seq ?_
  refine CW.region ?_
  refine SeqR.d1 rfl rfl rfl (yl_move rfl rfl ?_)
  refine SeqR.d1 rfl rfl rfl (yl_len Try.un62 rfl rfl ?_)
  refine SeqR.d1 rfl rfl rfl (yl_make (zs := [.string (bs (([] : Str))), .string (bs (([] : Str))), .bool (false)]) (n := p_a.length) Try.un67 Try.ty139 rfl rfl (Nat.le_of_ble_eq_true rfl) rfl rfl rfl (by first | omega | assumption | (simp only [IntKind.wrap_i64] at *; omega)) (by first | omega | assumption | (simp only [IntKind.wrap_i64] at *; omega)) ?_)
  intro b4 w5 hs6 hz7 hB8 hE9
  have hO10 : OwnL w5 b4 (b4 + 1) 139 3 (RF e_Write) (some ⟨b4, 0, none⟩) p_a.length p_a.length (List.replicate p_a.length d_Write) := by have := OwnL.of_boxF (lo := b4) (hi := b4 + 1) (xs := (List.replicate p_a.length d_Write)) hB8 (Nat.le_refl _) (Nat.lt_succ_self _) (EncL.zerosF (enc := e_Write) (d := d_Write) rfl p_a.length) (by rw [List.length_replicate]; omega); rwa [List.length_replicate] at this
  refine SeqR.d1 rfl rfl rfl (yl_assign rfl rfl ?_)
  refine SeqR.done ?_
  refine tn ?_
  refine CW.seq ?_
  refine CW.seq ?_
  refine CW.region ?_
  refine SeqR.d1 rfl rfl rfl (yl_assign rfl rfl ?_)
  refine SeqR.done ?_
  refine tn ?_
  refine CW.block ?_
  have q26 := RdS.ex good_Write h1 hE9
  have q27 := Ex.trans (Ex.refl w) hE9
  refine CW.loop (fun m23 L24 w25 => ∃ (k11 : Nat) (x22 : List DWrite), m23 = p_a.length - k11 ∧ k11 ≤ p_a.length ∧ lkp L24 0 = some (.slice A1 p_a.length c1) ∧ lkp L24 3 = some (.slice (some ⟨b4, 0, none⟩) p_a.length p_a.length) ∧ lkp L24 4 = some (.int .i64 ((k11 : Int))) ∧ RdS w25 (Iv 0 w.heap.size) (RF e_Write) 3 A1 p_a.length c1 p_a ∧ OwnL w25 b4 (b4 + 1) 139 3 (RF e_Write) (some ⟨b4, 0, none⟩) p_a.length p_a.length x22 ∧ Ex w w25 ∧ loopM (B_l_toWriteS_0 p_a) (p_a.length - k11) k11 (x22) = loopM (B_l_toWriteS_0 p_a) (p_a.length - 0) 0 ((List.replicate p_a.length d_Write))) (p_a.length - 0) ?_ ?_
  · exact ⟨0, (List.replicate p_a.length d_Write), rfl, Nat.zero_le _, rfl, rfl, rfl, q26, hO10, q27, rfl⟩
  · rintro m28 L29 w30 ⟨k11, x22, rfl, hk31, hl33, hl34, hl35, hf36, hf37, hf38, hI32⟩
    refine CW.sub (Sub.cons hl33 (Sub.cons hl34 (Sub.cons hl35 (Sub.nil _)))) ?_
    have hf38z := Ex.size hf38
    have hbg39 := RdS.big hf36
    rcases Nat.lt_or_ge k11 p_a.length with hlt40 | hlt40
    · skip
      refine CW.seq ?_
      refine CW.seq ?_
      refine CW.region ?_
      refine SeqR.d1 rfl rfl rfl (yl_move rfl rfl ?_)
      refine SeqR.d1 rfl rfl rfl (yl_move rfl rfl ?_)
      refine SeqR.d1 rfl rfl rfl (yl_len Try.un62 rfl rfl ?_)
      refine SeqR.d1 rfl rfl rfl (yl_lss rfl rfl rfl ?_)
      refine SeqR.done ?_
      refine tn ?_
      refine CW.cond_t rfl (lt_t hlt40) ?_
      refine CW.skip ?_
      refine tn ?_
      refine CW.seq ?_
      refine CW.block ?_
      refine CW.region ?_
      refine SeqR.d1 rfl rfl rfl (yl_move rfl rfl ?_)
      refine SeqR.d1 rfl rfl rfl (yl_move rfl rfl ?_)
      refine SeqR.d1 rfl rfl rfl (yl_move rfl rfl ?_)
      refine SeqR.d1 rfl rfl rfl (yl_move rfl rfl ?_)
      obtain ⟨eb41, eo41, ec41, eA41, eS41, ebl41, el41, eR41, eC41⟩ := RdS.atD hf36 d_Write (i := k11) (by first | omega | assumption)
      obtain rfl := eR41
      have eC41 : Cells w30 eb41 (eo41 + k11 * 3) [.string (bs ((p_a.getD k11 d_Write).Key)), .string (bs ((p_a.getD k11 d_Write).Val)), .bool ((p_a.getD k11 d_Write).Gone)] := eC41
      refine SeqR.d1 rfl rfl rfl (yl_indexAddrN Try.un62 Try.ty138 rfl rfl rfl eA41 (by first | omega | assumption | (simp only [IntKind.wrap_i64] at *; omega)) ?_)
      refine SeqR.d1 rfl rfl rfl (yl_loadN (cs := [.string (bs ((p_a.getD k11 d_Write).Key)), .string (bs ((p_a.getD k11 d_Write).Val)), .bool ((p_a.getD k11 d_Write).Gone)]) Try.ty138 rfl rfl eC41 rfl ?_)
      refine SeqR.d1 rfl rfl rfl (yl_call Try.en110 rfl (opvs_cons rfl opvs_nil) (Cal.mono (c_l_toWrite (p_a.getD k11 d_Write) (okL.getD o2 ok_d_Write _)) ?_))
      rintro v43 w42 ⟨rfl, hE44⟩
      have hE44z := Ex.size hE44
      have q46 := OwnL.ex good_Write hf37 hE44
      have q45 := OwnL.rd good_Write q46
      obtain ⟨eb47, eo47, ec47, eA47, eS47, ebl47, el47, eR47, eC47⟩ := RdS.atD q45 d_Write (i := k11) (by first | omega | assumption)
      obtain rfl := eR47
      have eC47 : Cells w42 eb47 (eo47 + k11 * 3) [.string (bs ((x22.getD k11 d_Write).Key)), .string (bs ((x22.getD k11 d_Write).Val)), .bool ((x22.getD k11 d_Write).Gone)] := eC47
      refine SeqR.d1 rfl rfl rfl (yl_indexAddrN Try.un67 Try.ty139 rfl rfl rfl eA47 (by first | omega | assumption | (simp only [IntKind.wrap_i64] at *; omega)) ?_)
      have hrg48 := OwnL.rng q46 eb47 (by rw [eA47]; rfl)
      refine SeqR.u rfl rfl (yl_storeF (off := eo47) (i := k11) (d := 0) (dx := d_Write) (x' := (p_a.getD k11 d_Write)) (vs := [.string (bs ((p_a.getD k11 d_Write).Key)), .string (bs ((p_a.getD k11 d_Write).Val)), .bool ((p_a.getD k11 d_Write).Gone)]) Try.ty139 rfl q46 eA47 rfl rfl rfl rfl rfl (by first | omega | assumption | (simp only [IntKind.wrap_i64] at *; omega)) (Nat.le_of_ble_eq_true rfl) rfl rfl ?_)
      intro w49 hB50 hO51
      have hO51z := hO51.size
      refine SeqR.done ?_
      refine bn ?_
      refine tn ?_
      refine CW.region ?_
      refine SeqR.d1 rfl rfl rfl (yl_move rfl rfl ?_)
      refine SeqR.d1 rfl rfl rfl (yl_inc rfl rfl rfl (by omega) ?_)
      refine SeqR.d1 rfl rfl rfl (yl_assign rfl rfl ?_)
      refine SeqR.done ?_
      refine tn ?_
      have hB52 : B_l_toWriteS_0 p_a k11 (x22) = .cont ((x22.set k11 (p_a.getD k11 d_Write))) := by simp only [B_l_toWriteS_0, cond_true, cond_false, loopE_done, loopE_ret]
      have q53 := RdS.ex good_Write hf36 hE44
      have q54 := RdS.only good_Write q53 hO51 (by simp only [Iv]; omega)
      have q55 := Ex.trans hf38 hE44
      have q56 := Below.only q55 hO51 (by omega)
      exact ⟨p_a.length - (k11 + 1), by omega, k11 + 1, (x22.set k11 (p_a.getD k11 d_Write)), rfl, hlt40, rfl, rfl, rfl, q54, hB50, q56, (loopM.cont hlt40 hB52).symm.trans hI32⟩
    · skip
      refine CW.seq ?_
      refine CW.seq ?_
      refine CW.region ?_
      refine SeqR.d1 rfl rfl rfl (yl_move rfl rfl ?_)
      refine SeqR.d1 rfl rfl rfl (yl_move rfl rfl ?_)
      refine SeqR.d1 rfl rfl rfl (yl_len Try.un62 rfl rfl ?_)
      refine SeqR.d1 rfl rfl rfl (yl_lss rfl rfl rfl ?_)
      refine SeqR.done ?_
      refine tn ?_
      refine CW.cond_f rfl (lt_f hlt40) ?_
      refine CW.exit ?_
      refine tx ?_
      refine tx ?_
      have hL57 : loopM (B_l_toWriteS_0 p_a) (p_a.length - 0) 0 ((List.replicate p_a.length d_Write)) = .done (x22) := hI32.symm.trans (loopM.stop hlt40)
      refine bx ?_
      refine tn ?_
      refine CW.seq ?_
      refine CW.region ?_
      refine SeqR.d1 rfl rfl rfl (yl_move rfl rfl ?_)
      refine SeqR.d1 rfl rfl rfl (yl_assign rfl rfl ?_)
      refine SeqR.done ?_
      refine tn ?_
      refine CW.ret ?_
      refine rr rfl (.cons rfl .nil) ?_
      have hM58 : p_a = (x22) := (to_WriteS _).symm.trans <| by simp only [l_toWriteS, hL57, cond_true, cond_false, loopE_done, loopE_ret]
      have q59 := OwnL.rd good_Write hf37
      subst hM58
      exact ⟨(some ⟨b4, 0, none⟩), p_a.length, rfl, (RdS.wideI good_Write q59 (by omega)), hf38⟩
set_option maxRecDepth 100000 in
set_option maxHeartbeats 2000000 in
theorem c_l_toCopy {A1 : Option Addr} {c1 : Nat} {w : World} (p_a : DCopy) (h1 : RdS w (Iv 0 w.heap.size) (RF e_Write) 3 A1 p_a.Rows.length c1 p_a.Rows) (o2 : ok_Copy p_a) : Cal Try.prog 39 #[.agg #[.int .i64 (p_a.Time), .slice A1 p_a.Rows.length c1]] w fun v w' => ∃ A_1 c_1, v = .agg #[.int .i64 (p_a.Time), .slice A_1 p_a.Rows.length c_1] ∧ RdS w' (Iv w.heap.size w'.heap.size) (RF e_Write) 3 A_1 p_a.Rows.length c_1 p_a.Rows ∧ Ex w w' := by
  have hol3 := o2.1
  refine Cal.of (vs := [.agg #[.int .i64 (p_a.Time), .slice A1 p_a.Rows.length c1]]) Try.func39 rfl Try.ntmps39 rfl ?_
  refine CW.seq ?_
  refine CW.region ?_
  refine SeqR.d1 rfl rfl rfl (yl_box (cs := [.int .i64 (p_a.Time), .slice A1 p_a.Rows.length c1]) rfl rfl rfl ?_)
  intro b4 w5 hs6 hz7 hB8 hE9
  refine SeqR.d1 rfl rfl rfl (yl_alloc Try.ty69 (cs := [.int .i64 (0), .slice none 0 0]) rfl rfl ?_)
  intro b10 w11 hs12 hz13 hB14 hE15
  refine SeqR.done ?_
  refine tn ?_
  refine CW.seq ?_
  refine CW.region ?_
  refine SeqR.d1 rfl rfl rfl (yl_alloc Try.ty69 (cs := [.int .i64 (0), .slice none 0 0]) rfl rfl ?_)
  intro b16 w17 hs18 hz19 hB20 hE21
  refine SeqR.done ?_
  refine tn ?_
  refine CW.seq ?_
  refine CW.region ?_
  refine SeqR.d1 rfl rfl rfl (yl_fieldAddr Try.fd64_0 rfl rfl ?_)
  have q22 := Box.ex hB8 hE15
  have q23 := Box.ex q22 hE21
  refine SeqR.d1 rfl rfl rfl (yl_load1 Try.ty3 rfl rfl ((q23.cell 0).trans rfl) ?_)
  refine SeqR.d1 rfl rfl rfl (yl_fieldAddr Try.fd69_0 rfl rfl ?_)
  refine SeqR.u rfl rfl (yl_store (vs := [.int .i64 (p_a.Time)]) Try.ty3 rfl rfl rfl rfl rfl rfl hB20 (Nat.le_of_ble_eq_true rfl) ?_)
  intro w24 hB25 hO26
  have hB25 : Box w24 b16 69 [.int .i64 (p_a.Time), .slice none 0 0] := hB25
  have hO26z := hO26.size
  refine SeqR.done ?_
  refine tn ?_
  refine CW.seq ?_
  refine CW.region ?_
  refine SeqR.d1 rfl rfl rfl (yl_fieldAddr Try.fd64_1 rfl rfl ?_)
  have q27 := Box.only q23 hO26 (by omega)
  refine SeqR.d1 rfl rfl rfl (yl_load1 Try.ty62 rfl rfl ((q27.cell 1).trans rfl) ?_)
  have q28 := RdS.ex good_Write h1 hE9
  have q29 := RdS.ex good_Write q28 hE15
  have q30 := RdS.ex good_Write q29 hE21
  have q31 := RdS.only good_Write q30 hO26 (by simp only [Iv]; omega)
  refine SeqR.d1 rfl rfl rfl (yl_call Try.en85 rfl (opvs_cons rfl opvs_nil) (Cal.mono (c_l_toWriteS p_a.Rows (RdS.up q31 good_Write) o2) ?_))
  rintro v34 w32 ⟨A33, c33, rfl, h33, hE35⟩
  have hE35z := Ex.size hE35
  refine SeqR.d1 rfl rfl rfl (yl_fieldAddr Try.fd69_1 rfl rfl ?_)
  have q36 := Box.ex hB25 hE35
  refine SeqR.u rfl rfl (yl_store (vs := [.slice A33 p_a.Rows.length c33]) Try.ty67 rfl rfl rfl rfl rfl rfl q36 (Nat.le_of_ble_eq_true rfl) ?_)
  intro w37 hB38 hO39
  have hB38 : Box w37 b16 69 [.int .i64 (p_a.Time), .slice A33 p_a.Rows.length c33] := hB38
  have hO39z := hO39.size
  refine SeqR.done ?_
  refine tn ?_
  refine CW.seq ?_
  refine CW.region ?_
  refine SeqR.d1 rfl rfl rfl (yl_loadN (cs := [.int .i64 (p_a.Time), .slice A33 p_a.Rows.length c33]) Try.ty69 rfl rfl (hB38.cells (n := 2) rfl) rfl ?_)
  have q40 := Box.ex hB14 hE21
  have q41 := Box.only q40 hO26 (by omega)
  have q42 := Box.ex q41 hE35
  have q43 := Box.only q42 hO39 (by omega)
  refine SeqR.u rfl rfl (yl_store (vs := [.int .i64 (p_a.Time), .slice A33 p_a.Rows.length c33]) Try.ty69 rfl rfl rfl rfl rfl rfl q43 (Nat.le_of_ble_eq_true rfl) ?_)
  intro w44 hB45 hO46
  have hB45 : Box w44 b10 69 [.int .i64 (p_a.Time), .slice A33 p_a.Rows.length c33] := hB45
  have hO46z := hO46.size
  refine SeqR.done ?_
  refine tn ?_
  refine CW.ret ?_
  refine rr rfl (.cons ⟨_, rfl, run_loadN Try.ty69 (cs := [.int .i64 (p_a.Time), .slice A33 p_a.Rows.length c33]) rfl (hB45.cells (n := 2) rfl)⟩ .nil) ?_
  have hM47 : p_a = (p_a) := (to_Copy _).symm.trans <| by simp only [l_toCopy, cond_true, cond_false, loopE_done, loopE_ret]
  have q48 := RdS.only good_Write h33 hO39 (by simp only [Iv]; omega)
  have q49 := RdS.only good_Write q48 hO46 (by simp only [Iv]; omega)
  rw [hM47]
  have q50 := Ex.trans (Ex.refl w) hE9
  have q51 := Ex.trans q50 hE15
  have q52 := Ex.trans q51 hE21
  have q53 := Below.only q52 hO26 (by omega)
  have q54 := Ex.trans q53 hE35
  have q55 := Below.only q54 hO39 (by omega)
  have q56 := Below.only q55 hO46 (by omega)
  exact ⟨A33, c33, rfl, (RdS.wideI good_Write q49 (by omega)), q56⟩
set_option maxRecDepth 100000 in
set_option maxHeartbeats 2000000 in
theorem c_i_within {w : World} (p_n : Int) (p_low : Int) (p_high : Int) : Cal Try.prog 56 #[.int .i64 (p_n), .int .i64 (p_low), .int .i64 (p_high)] w fun v w' => v = .bool ((i_within p_n p_low p_high)) ∧ Ex w w' := by
  refine Cal.of (vs := [.int .i64 (p_n), .int .i64 (p_low), .int .i64 (p_high)]) Try.func56 rfl Try.ntmps56 rfl ?_
  refine CW.seq ?_
  refine CW.region ?_
  refine SeqR.d1 rfl rfl rfl (yl_assign rfl rfl ?_)
  refine SeqR.done ?_
  refine tn ?_
  refine CW.seq ?_
  refine CW.region ?_
  refine SeqR.d1 rfl rfl rfl (yl_move rfl rfl ?_)
  refine SeqR.d1 rfl rfl rfl (yl_move rfl rfl ?_)
  refine SeqR.d1 rfl rfl rfl (yl_geq rfl rfl rfl ?_)
  refine SeqR.d1 rfl rfl rfl (yl_move rfl rfl ?_)
  refine bcase (decide (p_low ≤ p_n)) (fun hb1 => ?_) (fun hb1 => ?_)
  · have hb1p := dec_t hb1
    refine SeqR.y rfl rfl rfl rfl rfl hb1 (yl_move rfl rfl ?_)
    refine SeqR.y rfl rfl rfl rfl rfl hb1 (yl_move rfl rfl ?_)
    refine SeqR.y rfl rfl rfl rfl rfl hb1 (yl_leq rfl rfl rfl ?_)
    refine SeqR.d1 rfl rfl rfl (yl_pick_t rfl rfl hb1 rfl ?_)
    refine SeqR.d1 rfl rfl rfl (yl_assign rfl rfl ?_)
    refine SeqR.done ?_
    refine tn ?_
    refine CW.ret ?_
    refine rr rfl (.cons rfl .nil) ?_
    have hM2 : (i_within p_n p_low p_high) = (decide (p_n ≤ p_high)) := by simp only [i_within, hb1, cond_true, cond_false, loopE_done, loopE_ret]
    rw [hM2]
    exact ⟨rfl, (Ex.refl w)⟩
  · have hb1p := dec_f hb1
    refine SeqR.z rfl rfl rfl rfl rfl hb1 ?_
    refine SeqR.z rfl rfl rfl rfl rfl hb1 ?_
    refine SeqR.z rfl rfl rfl rfl rfl hb1 ?_
    refine SeqR.d1 rfl rfl rfl (yl_pick_f rfl rfl hb1 rfl ?_)
    refine SeqR.d1 rfl rfl rfl (yl_assign rfl rfl ?_)
    refine SeqR.done ?_
    refine tn ?_
    refine CW.ret ?_
    refine rr rfl (.cons rfl .nil) ?_
    have hM3 : (i_within p_n p_low p_high) = (false) := by simp only [i_within, hb1, cond_true, cond_false, loopE_done, loopE_ret]
    rw [hM3]
    exact ⟨rfl, (Ex.refl w)⟩
set_option maxRecDepth 100000 in
set_option maxHeartbeats 2000000 in
theorem c_i_isTrue {w : World} (p_now : Int) : Cal Try.prog 86 #[.int .i64 (p_now)] w fun v w' => v = .bool ((i_isTrue p_now)) ∧ Ex w w' := by
  refine Cal.of (vs := [.int .i64 (p_now)]) Try.func86 rfl Try.ntmps86 rfl ?_
  refine CW.seq ?_
  refine CW.region ?_
  refine SeqR.d1 rfl rfl rfl (yl_assign rfl rfl ?_)
  refine SeqR.done ?_
  refine tn ?_
  refine CW.seq ?_
  refine CW.region ?_
  refine SeqR.d1 rfl rfl rfl (yl_move rfl rfl ?_)
  refine SeqR.d1 rfl rfl rfl (yl_call Try.en56 rfl (opvs_cons rfl (opvs_cons rfl (opvs_cons rfl opvs_nil))) (Cal.mono (c_i_within p_now 0 100000) ?_))
  rintro v2 w1 ⟨rfl, hE3⟩
  have hE3z := Ex.size hE3
  refine SeqR.d1 rfl rfl rfl (yl_assign rfl rfl ?_)
  refine SeqR.done ?_
  refine tn ?_
  refine CW.ret ?_
  refine rr rfl (.cons rfl .nil) ?_
  have hM4 : (i_isTrue p_now) = ((i_within p_now 0 100000)) := by simp only [i_isTrue, cond_true, cond_false, loopE_done, loopE_ret]
  rw [hM4]
  have q5 := Ex.trans (Ex.refl w) hE3
  exact ⟨rfl, q5⟩
set_option maxRecDepth 100000 in
set_option maxHeartbeats 2000000 in
theorem c_g_slices_IndexFunc_Write {A1 : Option Addr} {c1 : Nat} {g3 : Nat} {cp4 : List Value} {w : World} (p_s : List DWrite) (p_f : DWrite → Bool) (h1 : RdS w (Iv 0 w.heap.size) (RF e_Write) 3 A1 p_s.length c1 p_s) (hen5 : Enters Try.prog g3) (hfn6 : ∀ (w1 : World) (y0 : DWrite), Ex w w1 → ok_Write y0 → Cal Try.prog g3 (([.agg #[.string (bs (y0.Key)), .string (bs (y0.Val)), .bool (y0.Gone)]] : List Value) ++ cp4).toArray w1 fun v w2 => v = .bool (p_f y0) ∧ Ex w1 w2) (o2 : (okL ok_Write) p_s) : Cal Try.prog 133 #[.slice A1 p_s.length c1, .func (.func g3) #[] cp4.toArray] w fun v w' => v = .int .i64 ((g_slices_IndexFunc_Write p_s p_f)) ∧ Ex w w' := by
  have hol7 := o2.1
  refine Cal.of (vs := [.slice A1 p_s.length c1, .func (.func g3) #[] cp4.toArray]) Try.func133 rfl Try.ntmps133 rfl ?_
  refine CW.seq ?_
  refine CW.region ?_
  refine SeqR.d1 rfl rfl rfl (yl_assign rfl rfl ?_)
  refine SeqR.done ?_
  refine tn ?_
  refine CW.seq ?_
  refine CW.seq ?_
  refine CW.region ?_
  refine SeqR.d1 rfl rfl rfl (yl_move rfl rfl ?_)
  refine SeqR.d1 rfl rfl rfl (yl_len Try.un67 rfl rfl ?_)
  refine SeqR.d1 rfl rfl rfl (yl_move rfl rfl ?_)
  refine SeqR.done ?_
  refine tn ?_
  refine CW.block ?_
  refine CW.loop (fun m9 L10 w11 => ∃ (k8 : Nat), m9 = p_s.length - k8 ∧ k8 ≤ p_s.length ∧ lkp L10 0 = some (.slice A1 p_s.length c1) ∧ lkp L10 1 = some (.func (.func g3) #[] cp4.toArray) ∧ lkp L10 7 = some (.int .i64 ((p_s.length : Int))) ∧ lkp L10 8 = some (.int .i64 ((k8 : Int))) ∧ RdS w11 (Iv 0 w.heap.size) (RF e_Write) 3 A1 p_s.length c1 p_s ∧ Ex w w11 ∧ loopM (B_g_slices_IndexFunc_Write_0 p_s p_f) (p_s.length - k8) k8 () = loopM (B_g_slices_IndexFunc_Write_0 p_s p_f) (p_s.length - 0) 0 ()) (p_s.length - 0) ?_ ?_
  · exact ⟨0, rfl, Nat.zero_le _, rfl, rfl, rfl, rfl, h1, (Ex.refl w), rfl⟩
  · rintro m12 L13 w14 ⟨k8, rfl, hk15, hl17, hl18, hl19, hl20, hf21, hf22, hI16⟩
    refine CW.sub (Sub.cons hl17 (Sub.cons hl18 (Sub.cons hl19 (Sub.cons hl20 (Sub.nil _))))) ?_
    have hf22z := Ex.size hf22
    have hbg23 := RdS.big hf21
    rcases Nat.lt_or_ge k8 p_s.length with hlt24 | hlt24
    · skip
      refine CW.seq ?_
      refine CW.region ?_
      refine SeqR.d1 rfl rfl rfl (yl_lss rfl rfl rfl ?_)
      refine SeqR.done ?_
      refine tn ?_
      refine CW.seq ?_
      refine CW.cond_t rfl (lt_t hlt24) ?_
      refine CW.skip ?_
      refine tn ?_
      refine CW.seq ?_
      refine CW.block ?_
      refine CW.seq ?_
      refine CW.region ?_
      refine SeqR.d1 rfl rfl rfl (yl_move rfl rfl ?_)
      refine SeqR.d1 rfl rfl rfl (yl_assign rfl rfl ?_)
      refine SeqR.done ?_
      refine tn ?_
      refine CW.seq ?_
      refine CW.region ?_
      refine SeqR.d1 rfl rfl rfl (yl_move rfl rfl ?_)
      refine SeqR.d1 rfl rfl rfl (yl_move rfl rfl ?_)
      refine SeqR.d1 rfl rfl rfl (yl_move rfl rfl ?_)
      obtain ⟨eb25, eo25, ec25, eA25, eS25, ebl25, el25, eR25, eC25⟩ := RdS.atD hf21 d_Write (i := k8) (by first | omega | assumption)
      obtain rfl := eR25
      have eC25 : Cells w14 eb25 (eo25 + k8 * 3) [.string (bs ((p_s.getD k8 d_Write).Key)), .string (bs ((p_s.getD k8 d_Write).Val)), .bool ((p_s.getD k8 d_Write).Gone)] := eC25
      refine SeqR.d1 rfl rfl rfl (yl_indexAddrN Try.un67 Try.ty139 rfl rfl rfl eA25 (by first | omega | assumption | (simp only [IntKind.wrap_i64] at *; omega)) ?_)
      refine SeqR.d1 rfl rfl rfl (yl_loadN (cs := [.string (bs ((p_s.getD k8 d_Write).Key)), .string (bs ((p_s.getD k8 d_Write).Val)), .bool ((p_s.getD k8 d_Write).Gone)]) Try.ty139 rfl rfl eC25 rfl ?_)
      refine SeqR.d1 rfl rfl rfl (yl_callv hen5 rfl rfl (opvs_cons rfl opvs_nil) (Cal.mono (hfn6 w14 (p_s.getD k8 d_Write) hf22 (okL.getD o2 ok_d_Write _)) ?_))
      rintro v27 w26 ⟨rfl, hE28⟩
      have hE28z := Ex.size hE28
      refine SeqR.done ?_
      refine tn ?_
      refine bcase (p_f (p_s.getD k8 d_Write)) (fun hb29 => ?_) (fun hb29 => ?_)
      · skip
        refine CW.cond_t rfl hb29 ?_
        refine CW.seq ?_
        refine CW.region ?_
        refine SeqR.d1 rfl rfl rfl (yl_move rfl rfl ?_)
        refine SeqR.d1 rfl rfl rfl (yl_assign rfl rfl ?_)
        refine SeqR.done ?_
        refine tn ?_
        refine CW.ret ?_
        refine br ?_
        refine tr ?_
        refine tr ?_
        have hB31 : B_g_slices_IndexFunc_Write_0 p_s p_f k8 () = .ret (k8 : Int) := by simp only [B_g_slices_IndexFunc_Write_0, hb29, cond_true, cond_false, loopE_done, loopE_ret]
        have hL30 : loopM (B_g_slices_IndexFunc_Write_0 p_s p_f) (p_s.length - 0) 0 () = .ret (k8 : Int) := hI16.symm.trans (loopM.ret hlt24 hB31)
        refine br ?_
        refine tr ?_
        refine rr rfl (.cons rfl .nil) ?_
        have hM32 : (g_slices_IndexFunc_Write p_s p_f) = ((k8 : Int)) := by simp only [g_slices_IndexFunc_Write, hb29, hL30, cond_true, cond_false, loopE_done, loopE_ret]
        rw [hM32]
        have q33 := Ex.trans hf22 hE28
        exact ⟨rfl, q33⟩
      · skip
        refine CW.cond_f rfl hb29 ?_
        refine CW.skip ?_
        refine bn ?_
        refine tn ?_
        refine CW.region ?_
        refine SeqR.d1 rfl rfl rfl (yl_inc rfl rfl rfl (by omega) ?_)
        refine SeqR.d1 rfl rfl rfl (yl_move rfl rfl ?_)
        refine SeqR.done ?_
        refine tn ?_
        have hB34 : B_g_slices_IndexFunc_Write_0 p_s p_f k8 () = .cont () := by simp only [B_g_slices_IndexFunc_Write_0, hb29, cond_true, cond_false, loopE_done, loopE_ret]
        have q35 := RdS.ex good_Write hf21 hE28
        have q36 := Ex.trans hf22 hE28
        exact ⟨p_s.length - (k8 + 1), by omega, k8 + 1, rfl, hlt24, rfl, rfl, rfl, rfl, q35, q36, (loopM.cont hlt24 hB34).symm.trans hI16⟩
    · skip
      refine CW.seq ?_
      refine CW.region ?_
      refine SeqR.d1 rfl rfl rfl (yl_lss rfl rfl rfl ?_)
      refine SeqR.done ?_
      refine tn ?_
      refine CW.seq ?_
      refine CW.cond_f rfl (lt_f hlt24) ?_
      refine CW.exit ?_
      refine tx ?_
      refine tx ?_
      have hL37 : loopM (B_g_slices_IndexFunc_Write_0 p_s p_f) (p_s.length - 0) 0 () = .done () := hI16.symm.trans (loopM.stop hlt24)
      refine bx ?_
      refine tn ?_
      refine CW.seq ?_
      refine CW.region ?_
      refine SeqR.d1 rfl rfl rfl (yl_assign rfl rfl ?_)
      refine SeqR.done ?_
      refine tn ?_
      refine CW.ret ?_
      refine rr rfl (.cons rfl .nil) ?_
      have hM38 : (g_slices_IndexFunc_Write p_s p_f) = (-1) := by simp only [g_slices_IndexFunc_Write, hL37, cond_true, cond_false, loopE_done, loopE_ret]
      rw [hM38]
      exact ⟨rfl, hf22⟩
set_option maxRecDepth 100000 in
set_option maxHeartbeats 2000000 in
theorem c_g_slices_ContainsFunc_Write {A1 : Option Addr} {c1 : Nat} {g3 : Nat} {cp4 : List Value} {w : World} (p_s : List DWrite) (p_f : DWrite → Bool) (h1 : RdS w (Iv 0 w.heap.size) (RF e_Write) 3 A1 p_s.length c1 p_s) (hen5 : Enters Try.prog g3) (hfn6 : ∀ (w1 : World) (y0 : DWrite), Ex w w1 → ok_Write y0 → Cal Try.prog g3 (([.agg #[.string (bs (y0.Key)), .string (bs (y0.Val)), .bool (y0.Gone)]] : List Value) ++ cp4).toArray w1 fun v w2 => v = .bool (p_f y0) ∧ Ex w1 w2) (o2 : (okL ok_Write) p_s) : Cal Try.prog 112 #[.slice A1 p_s.length c1, .func (.func g3) #[] cp4.toArray] w fun v w' => v = .bool ((g_slices_ContainsFunc_Write p_s p_f)) ∧ Ex w w' := by
  have hol7 := o2.1
  refine Cal.of (vs := [.slice A1 p_s.length c1, .func (.func g3) #[] cp4.toArray]) Try.func112 rfl Try.ntmps112 rfl ?_
  refine CW.seq ?_
  refine CW.region ?_
  refine SeqR.d1 rfl rfl rfl (yl_assign rfl rfl ?_)
  refine SeqR.done ?_
  refine tn ?_
  refine CW.seq ?_
  refine CW.region ?_
  refine SeqR.d1 rfl rfl rfl (yl_move rfl rfl ?_)
  refine SeqR.d1 rfl rfl rfl (yl_move rfl rfl ?_)
  refine SeqR.d1 rfl rfl rfl (yl_call Try.en133 rfl (opvs_cons rfl (opvs_cons rfl opvs_nil)) (Cal.mono (c_g_slices_IndexFunc_Write p_s p_f (RdS.up h1 good_Write) hen5 (fun w1 y0 => fun hE => hfn6 w1 y0 (Ex.trans (Ex.refl w) hE)) o2) ?_))
  rintro v9 w8 ⟨rfl, hE10⟩
  have hE10z := Ex.size hE10
  refine SeqR.d1 rfl rfl rfl (yl_geq rfl rfl rfl ?_)
  refine SeqR.d1 rfl rfl rfl (yl_assign rfl rfl ?_)
  refine SeqR.done ?_
  refine tn ?_
  refine CW.ret ?_
  refine rr rfl (.cons rfl .nil) ?_
  have hM11 : (g_slices_ContainsFunc_Write p_s p_f) = (decide (0 ≤ (g_slices_IndexFunc_Write p_s p_f))) := by simp only [g_slices_ContainsFunc_Write, cond_true, cond_false, loopE_done, loopE_ret]
  rw [hM11]
  have q12 := Ex.trans (Ex.refl w) hE10
  exact ⟨rfl, q12⟩
set_option maxRecDepth 100000 in
set_option maxHeartbeats 2000000 in
theorem c_i_isLowerOrDigit {w : World} (p_b : Int) : Cal Try.prog 126 #[.int .u8 (p_b)] w fun v w' => v = .bool ((i_isLowerOrDigit p_b)) ∧ Ex w w' := by
  refine Cal.of (vs := [.int .u8 (p_b)]) Try.func126 rfl Try.ntmps126 rfl ?_
  refine CW.seq ?_
  refine CW.region ?_
  refine SeqR.d1 rfl rfl rfl (yl_assign rfl rfl ?_)
  refine SeqR.done ?_
  refine tn ?_
  refine CW.seq ?_
  refine CW.region ?_
  refine SeqR.d1 rfl rfl rfl (yl_move rfl rfl ?_)
  refine SeqR.d1 rfl rfl rfl (yl_geq rfl rfl rfl ?_)
  refine SeqR.d1 rfl rfl rfl (yl_move rfl rfl ?_)
  refine bcase (decide (97 ≤ p_b)) (fun hb1 => ?_) (fun hb1 => ?_)
  · have hb1p := dec_t hb1
    refine SeqR.y rfl rfl rfl rfl rfl hb1 (yl_move rfl rfl ?_)
    refine SeqR.y rfl rfl rfl rfl rfl hb1 (yl_leq rfl rfl rfl ?_)
    refine SeqR.d1 rfl rfl rfl (yl_pick_t rfl rfl hb1 rfl ?_)
    refine SeqR.d1 rfl rfl rfl (yl_move rfl rfl ?_)
    refine bcase (decide (p_b ≤ 122)) (fun hb2 => ?_) (fun hb2 => ?_)
    · have hb2p := dec_t hb2
      refine SeqR.z rfl rfl rfl rfl rfl hb2 ?_
      refine SeqR.z rfl rfl rfl rfl rfl hb2 ?_
      refine SeqR.z rfl rfl rfl rfl rfl hb2 ?_
      refine SeqR.q rfl rfl rfl rfl rfl ?_
      refine SeqR.q rfl rfl rfl rfl rfl ?_
      refine SeqR.z rfl rfl rfl rfl rfl hb2 ?_
      refine SeqR.d1 rfl rfl rfl (yl_pick_t rfl rfl hb2 rfl ?_)
      refine SeqR.d1 rfl rfl rfl (yl_assign rfl rfl ?_)
      refine SeqR.done ?_
      refine tn ?_
      refine CW.ret ?_
      refine rr rfl (.cons rfl .nil) ?_
      have hM3 : (i_isLowerOrDigit p_b) = (true) := by simp only [i_isLowerOrDigit, hb1, hb2, cond_true, cond_false, loopE_done, loopE_ret]
      rw [hM3]
      exact ⟨rfl, (Ex.refl w)⟩
    · have hb2p := dec_f hb2
      refine SeqR.y rfl rfl rfl rfl rfl hb2 (yl_move rfl rfl ?_)
      refine SeqR.y rfl rfl rfl rfl rfl hb2 (yl_geq rfl rfl rfl ?_)
      refine SeqR.y rfl rfl rfl rfl rfl hb2 (yl_move rfl rfl ?_)
      refine bcase (decide (48 ≤ p_b)) (fun hb4 => ?_) (fun hb4 => ?_)
      · have hb4p := dec_t hb4
        refine SeqR.y rfl rfl rfl rfl rfl hb4 (yl_move rfl rfl ?_)
        refine SeqR.y rfl rfl rfl rfl rfl hb4 (yl_leq rfl rfl rfl ?_)
        refine SeqR.y rfl rfl rfl rfl rfl hb2 (yl_pick_t rfl rfl hb4 rfl ?_)
        refine SeqR.d1 rfl rfl rfl (yl_pick_f rfl rfl hb2 rfl ?_)
        refine SeqR.d1 rfl rfl rfl (yl_assign rfl rfl ?_)
        refine SeqR.done ?_
        refine tn ?_
        refine CW.ret ?_
        refine rr rfl (.cons rfl .nil) ?_
        have hM5 : (i_isLowerOrDigit p_b) = (decide (p_b ≤ 57)) := by simp only [i_isLowerOrDigit, hb1, hb2, hb4, cond_true, cond_false, loopE_done, loopE_ret]
        rw [hM5]
        exact ⟨rfl, (Ex.refl w)⟩
      · have hb4p := dec_f hb4
        refine SeqR.z rfl rfl rfl rfl rfl hb4 ?_
        refine SeqR.z rfl rfl rfl rfl rfl hb4 ?_
        refine SeqR.y rfl rfl rfl rfl rfl hb2 (yl_pick_f rfl rfl hb4 rfl ?_)
        refine SeqR.d1 rfl rfl rfl (yl_pick_f rfl rfl hb2 rfl ?_)
        refine SeqR.d1 rfl rfl rfl (yl_assign rfl rfl ?_)
        refine SeqR.done ?_
        refine tn ?_
        refine CW.ret ?_
        refine rr rfl (.cons rfl .nil) ?_
        have hM6 : (i_isLowerOrDigit p_b) = (false) := by simp only [i_isLowerOrDigit, hb1, hb2, hb4, cond_true, cond_false, loopE_done, loopE_ret]
        rw [hM6]
        exact ⟨rfl, (Ex.refl w)⟩
  · have hb1p := dec_f hb1
    refine SeqR.z rfl rfl rfl rfl rfl hb1 ?_
    refine SeqR.z rfl rfl rfl rfl rfl hb1 ?_
    refine SeqR.d1 rfl rfl rfl (yl_pick_f rfl rfl hb1 rfl ?_)
    refine SeqR.d1 rfl rfl rfl (yl_move rfl rfl ?_)
    refine SeqR.y rfl rfl rfl rfl rfl rfl (yl_move rfl rfl ?_)
    refine SeqR.y rfl rfl rfl rfl rfl rfl (yl_geq rfl rfl rfl ?_)
    refine SeqR.y rfl rfl rfl rfl rfl rfl (yl_move rfl rfl ?_)
    refine bcase (decide (48 ≤ p_b)) (fun hb7 => ?_) (fun hb7 => ?_)
    · have hb7p := dec_t hb7
      refine SeqR.y rfl rfl rfl rfl rfl hb7 (yl_move rfl rfl ?_)
      refine SeqR.y rfl rfl rfl rfl rfl hb7 (yl_leq rfl rfl rfl ?_)
      refine SeqR.y rfl rfl rfl rfl rfl rfl (yl_pick_t rfl rfl hb7 rfl ?_)
      refine SeqR.d1 rfl rfl rfl (yl_pick_f rfl rfl rfl rfl ?_)
      refine SeqR.d1 rfl rfl rfl (yl_assign rfl rfl ?_)
      refine SeqR.done ?_
      refine tn ?_
      refine CW.ret ?_
      refine rr rfl (.cons rfl .nil) ?_
      have hM8 : (i_isLowerOrDigit p_b) = (decide (p_b ≤ 57)) := by simp only [i_isLowerOrDigit, hb1, hb7, cond_true, cond_false, loopE_done, loopE_ret]
      rw [hM8]
      exact ⟨rfl, (Ex.refl w)⟩
    · have hb7p := dec_f hb7
      refine SeqR.z rfl rfl rfl rfl rfl hb7 ?_
      refine SeqR.z rfl rfl rfl rfl rfl hb7 ?_
      refine SeqR.y rfl rfl rfl rfl rfl rfl (yl_pick_f rfl rfl hb7 rfl ?_)
      refine SeqR.d1 rfl rfl rfl (yl_pick_f rfl rfl rfl rfl ?_)
      refine SeqR.d1 rfl rfl rfl (yl_assign rfl rfl ?_)
      refine SeqR.done ?_
      refine tn ?_
      refine CW.ret ?_
      refine rr rfl (.cons rfl .nil) ?_
      have hM9 : (i_isLowerOrDigit p_b) = (false) := by simp only [i_isLowerOrDigit, hb1, hb7, cond_true, cond_false, loopE_done, loopE_ret]
      rw [hM9]
      exact ⟨rfl, (Ex.refl w)⟩
set_option maxRecDepth 100000 in
set_option maxHeartbeats 2000000 in
theorem c_g_internal_stringslite_IndexByte {w : World} (p_s : Str) (p_c : Int) (o1 : okS p_s) : Cal Try.prog 137 #[.string (bs (p_s)), .int .u8 (p_c)] w fun v w' => v = .int .i64 ((g_internal_stringslite_IndexByte p_s p_c)) ∧ Ex w w' := by
  have hol2 : p_s.length ≤ 1073741824 := o1
  refine Cal.of (vs := [.string (bs (p_s)), .int .u8 (p_c)]) Try.func137 rfl Try.ntmps137 rfl ?_
  refine CW.seq ?_
  refine CW.region ?_
  refine SeqR.d1 rfl rfl rfl (yl_assign rfl rfl ?_)
  refine SeqR.done ?_
  refine tn ?_
  refine CW.seq ?_
  refine CW.region ?_
  refine SeqR.d1 rfl rfl rfl (yl_move rfl rfl ?_)
  refine SeqR.d1 rfl rfl rfl (yl_move rfl rfl ?_)
  refine SeqR.d1 rfl rfl rfl (yl_idxB (s := p_s) (c := p_c) Try.ex140 rfl (opvs_cons rfl (opvs_cons rfl opvs_nil)) ?_)
  refine SeqR.d1 rfl rfl rfl (yl_assign rfl rfl ?_)
  refine SeqR.done ?_
  refine tn ?_
  refine CW.ret ?_
  refine rr rfl (.cons rfl .nil) ?_
  have hM3 : (g_internal_stringslite_IndexByte p_s p_c) = (idxB p_s p_c) := by simp only [g_internal_stringslite_IndexByte, cond_true, cond_false, loopE_done, loopE_ret]
  rw [hM3]
  exact ⟨rfl, (Ex.refl w)⟩
set_option maxRecDepth 100000 in
set_option maxHeartbeats 2000000 in
theorem c_g_strings_IndexByte {w : World} (p_s : Str) (p_c : Int) (o1 : okS p_s) : Cal Try.prog 127 #[.string (bs (p_s)), .int .u8 (p_c)] w fun v w' => v = .int .i64 ((g_strings_IndexByte p_s p_c)) ∧ Ex w w' := by
  have hol2 : p_s.length ≤ 1073741824 := o1
  refine Cal.of (vs := [.string (bs (p_s)), .int .u8 (p_c)]) Try.func127 rfl Try.ntmps127 rfl ?_
  refine CW.seq ?_
  refine CW.region ?_
  refine SeqR.d1 rfl rfl rfl (yl_assign rfl rfl ?_)
  refine SeqR.done ?_
  refine tn ?_
  refine CW.seq ?_
  refine CW.region ?_
  refine SeqR.d1 rfl rfl rfl (yl_move rfl rfl ?_)
  refine SeqR.d1 rfl rfl rfl (yl_move rfl rfl ?_)
  refine SeqR.d1 rfl rfl rfl (yl_call Try.en137 rfl (opvs_cons rfl (opvs_cons rfl opvs_nil)) (Cal.mono (c_g_internal_stringslite_IndexByte p_s p_c o1) ?_))
  rintro v4 w3 ⟨rfl, hE5⟩
  have hE5z := Ex.size hE5
  refine SeqR.d1 rfl rfl rfl (yl_assign rfl rfl ?_)
  refine SeqR.done ?_
  refine tn ?_
  refine CW.ret ?_
  refine rr rfl (.cons rfl .nil) ?_
  have hM6 : (g_strings_IndexByte p_s p_c) = ((g_internal_stringslite_IndexByte p_s p_c)) := by simp only [g_strings_IndexByte, cond_true, cond_false, loopE_done, loopE_ret]
  rw [hM6]
  have q7 := Ex.trans (Ex.refl w) hE5
  exact ⟨rfl, q7⟩
set_option maxRecDepth 100000 in
set_option maxHeartbeats 2000000 in
theorem c_i_hasBytes {w : World} (p_s : Str) (p_others : Str) (o1 : okS p_s) (o2 : okS p_others) : Cal Try.prog 100 #[.string (bs (p_s)), .string (bs (p_others))] w fun v w' => v = .bool ((i_hasBytes p_s p_others)) ∧ Ex w w' := by
  have hol3 : p_s.length ≤ 1073741824 := o1
  have hol4 : p_others.length ≤ 1073741824 := o2
  refine Cal.of (vs := [.string (bs (p_s)), .string (bs (p_others))]) Try.func100 rfl Try.ntmps100 rfl ?_
  refine CW.seq ?_
  refine CW.region ?_
  refine SeqR.d1 rfl rfl rfl (yl_assign rfl rfl ?_)
  refine SeqR.done ?_
  refine tn ?_
  refine CW.seq ?_
  refine CW.seq ?_
  refine CW.region ?_
  refine SeqR.d1 rfl rfl rfl (yl_move rfl rfl ?_)
  refine SeqR.d1 rfl rfl rfl (yl_slen Try.un9 (a := p_s) rfl rfl ?_)
  refine SeqR.d1 rfl rfl rfl (yl_move rfl rfl ?_)
  refine SeqR.done ?_
  refine tn ?_
  refine CW.block ?_
  refine CW.loop (fun m6 L7 w8 => ∃ (k5 : Nat), m6 = p_s.length - k5 ∧ k5 ≤ p_s.length ∧ lkp L7 0 = some (.string (bs (p_s))) ∧ lkp L7 1 = some (.string (bs (p_others))) ∧ lkp L7 7 = some (.int .i64 ((p_s.length : Int))) ∧ lkp L7 8 = some (.int .i64 ((k5 : Int))) ∧ Ex w w8 ∧ loopM (B_i_hasBytes_0 p_s p_others) (p_s.length - k5) k5 () = loopM (B_i_hasBytes_0 p_s p_others) (p_s.length - 0) 0 ()) (p_s.length - 0) ?_ ?_
  · exact ⟨0, rfl, Nat.zero_le _, rfl, rfl, rfl, rfl, (Ex.refl w), rfl⟩
  · rintro m9 L10 w11 ⟨k5, rfl, hk12, hl14, hl15, hl16, hl17, hf18, hI13⟩
    refine CW.sub (Sub.cons hl14 (Sub.cons hl15 (Sub.cons hl16 (Sub.cons hl17 (Sub.nil _))))) ?_
    have hf18z := Ex.size hf18
    have hbg19 : p_s.length ≤ 1073741824 := o1
    rcases Nat.lt_or_ge k5 p_s.length with hlt20 | hlt20
    · skip
      refine CW.seq ?_
      refine CW.region ?_
      refine SeqR.d1 rfl rfl rfl (yl_lss rfl rfl rfl ?_)
      refine SeqR.done ?_
      refine tn ?_
      refine CW.seq ?_
      refine CW.cond_t rfl (lt_t hlt20) ?_
      refine CW.skip ?_
      refine tn ?_
      refine CW.seq ?_
      refine CW.block ?_
      refine CW.seq ?_
      refine CW.region ?_
      refine SeqR.d1 rfl rfl rfl (yl_move rfl rfl ?_)
      refine SeqR.d1 rfl rfl rfl (yl_assign rfl rfl ?_)
      refine SeqR.done ?_
      refine tn ?_
      refine CW.seq ?_
      refine CW.region ?_
      refine SeqR.d1 rfl rfl rfl (yl_move rfl rfl ?_)
      refine SeqR.d1 rfl rfl rfl (yl_move rfl rfl ?_)
      refine SeqR.d1 rfl rfl rfl (yl_sindexN Try.un9 (a := p_s) rfl rfl rfl (by first | omega | assumption | (simp only [IntKind.wrap_i64] at *; omega)) ?_)
      refine SeqR.d1 rfl rfl rfl (yl_call Try.en126 rfl (opvs_cons rfl opvs_nil) (Cal.mono (c_i_isLowerOrDigit ((p_s.getD k5 0).toNat : Int)) ?_))
      rintro v22 w21 ⟨rfl, hE23⟩
      have hE23z := Ex.size hE23
      refine SeqR.d1 rfl rfl rfl (yl_not rfl rfl ?_)
      refine SeqR.d1 rfl rfl rfl (yl_move rfl rfl ?_)
      refine bcase (i_isLowerOrDigit ((p_s.getD k5 0).toNat : Int)) (fun hb24 => ?_) (fun hb24 => ?_)
      · skip
        refine SeqR.z rfl rfl rfl rfl rfl (not_t hb24) ?_
        refine SeqR.z rfl rfl rfl rfl rfl (not_t hb24) ?_
        refine SeqR.z rfl rfl rfl rfl rfl (not_t hb24) ?_
        refine SeqR.z rfl rfl rfl rfl rfl (not_t hb24) ?_
        refine SeqR.z rfl rfl rfl rfl rfl (not_t hb24) ?_
        refine SeqR.z rfl rfl rfl rfl rfl (not_t hb24) ?_
        refine SeqR.d1 rfl rfl rfl (yl_pick_f rfl rfl (not_t hb24) rfl ?_)
        refine SeqR.done ?_
        refine tn ?_
        refine CW.cond_f rfl rfl ?_
        refine CW.skip ?_
        refine bn ?_
        refine tn ?_
        refine CW.region ?_
        refine SeqR.d1 rfl rfl rfl (yl_inc rfl rfl rfl (by omega) ?_)
        refine SeqR.d1 rfl rfl rfl (yl_move rfl rfl ?_)
        refine SeqR.done ?_
        refine tn ?_
        have hB25 : B_i_hasBytes_0 p_s p_others k5 () = .cont () := by simp only [B_i_hasBytes_0, hb24, cond_true, cond_false, loopE_done, loopE_ret]
        have q26 := Ex.trans hf18 hE23
        exact ⟨p_s.length - (k5 + 1), by omega, k5 + 1, rfl, hlt20, rfl, rfl, rfl, rfl, q26, (loopM.cont hlt20 hB25).symm.trans hI13⟩
      · skip
        refine SeqR.y rfl rfl rfl rfl rfl (not_f hb24) (yl_move rfl rfl ?_)
        refine SeqR.y rfl rfl rfl rfl rfl (not_f hb24) (yl_move rfl rfl ?_)
        refine SeqR.y rfl rfl rfl rfl rfl (not_f hb24) (yl_move rfl rfl ?_)
        refine SeqR.y rfl rfl rfl rfl rfl (not_f hb24) (yl_sindexN Try.un9 (a := p_s) rfl rfl rfl (by first | omega | assumption | (simp only [IntKind.wrap_i64] at *; omega)) ?_)
        refine SeqR.y rfl rfl rfl rfl rfl (not_f hb24) (yl_call Try.en127 rfl (opvs_cons rfl (opvs_cons rfl opvs_nil)) (Cal.mono (c_g_strings_IndexByte p_others ((p_s.getD k5 0).toNat : Int) o2) ?_))
        rintro v28 w27 ⟨rfl, hE29⟩
        have hE29z := Ex.size hE29
        refine SeqR.y rfl rfl rfl rfl rfl (not_f hb24) (yl_lss rfl rfl rfl ?_)
        refine SeqR.d1 rfl rfl rfl (yl_pick_t rfl rfl (not_f hb24) rfl ?_)
        refine SeqR.done ?_
        refine tn ?_
        refine bcase (decide ((g_strings_IndexByte p_others ((p_s.getD k5 0).toNat : Int)) < 0)) (fun hb30 => ?_) (fun hb30 => ?_)
        · have hb30p := dec_t hb30
          refine CW.cond_t rfl hb30 ?_
          refine CW.seq ?_
          refine CW.region ?_
          refine SeqR.d1 rfl rfl rfl (yl_assign rfl rfl ?_)
          refine SeqR.done ?_
          refine tn ?_
          refine CW.ret ?_
          refine br ?_
          refine tr ?_
          refine tr ?_
          have hB32 : B_i_hasBytes_0 p_s p_others k5 () = .ret false := by simp only [B_i_hasBytes_0, hb24, hb30, cond_true, cond_false, loopE_done, loopE_ret]
          have hL31 : loopM (B_i_hasBytes_0 p_s p_others) (p_s.length - 0) 0 () = .ret false := hI13.symm.trans (loopM.ret hlt20 hB32)
          refine br ?_
          refine tr ?_
          refine rr rfl (.cons rfl .nil) ?_
          have hM33 : (i_hasBytes p_s p_others) = (false) := by simp only [i_hasBytes, hb24, hb30, hL31, cond_true, cond_false, loopE_done, loopE_ret]
          rw [hM33]
          have q34 := Ex.trans hf18 hE23
          have q35 := Ex.trans q34 hE29
          exact ⟨rfl, q35⟩
        · have hb30p := dec_f hb30
          refine CW.cond_f rfl hb30 ?_
          refine CW.skip ?_
          refine bn ?_
          refine tn ?_
          refine CW.region ?_
          refine SeqR.d1 rfl rfl rfl (yl_inc rfl rfl rfl (by omega) ?_)
          refine SeqR.d1 rfl rfl rfl (yl_move rfl rfl ?_)
          refine SeqR.done ?_
          refine tn ?_
          have hB36 : B_i_hasBytes_0 p_s p_others k5 () = .cont () := by simp only [B_i_hasBytes_0, hb24, hb30, cond_true, cond_false, loopE_done, loopE_ret]
          have q37 := Ex.trans hf18 hE23
          have q38 := Ex.trans q37 hE29
          exact ⟨p_s.length - (k5 + 1), by omega, k5 + 1, rfl, hlt20, rfl, rfl, rfl, rfl, q38, (loopM.cont hlt20 hB36).symm.trans hI13⟩
    · skip
      refine CW.seq ?_
      refine CW.region ?_
      refine SeqR.d1 rfl rfl rfl (yl_lss rfl rfl rfl ?_)
      refine SeqR.done ?_
      refine tn ?_
      refine CW.seq ?_
      refine CW.cond_f rfl (lt_f hlt20) ?_
      refine CW.exit ?_
      refine tx ?_
      refine tx ?_
      have hL39 : loopM (B_i_hasBytes_0 p_s p_others) (p_s.length - 0) 0 () = .done () := hI13.symm.trans (loopM.stop hlt20)
      refine bx ?_
      refine tn ?_
      refine CW.seq ?_
      refine CW.region ?_
      refine SeqR.d1 rfl rfl rfl (yl_assign rfl rfl ?_)
      refine SeqR.done ?_
      refine tn ?_
      refine CW.ret ?_
      refine rr rfl (.cons rfl .nil) ?_
      have hM40 : (i_hasBytes p_s p_others) = (true) := by simp only [i_hasBytes, hL39, cond_true, cond_false, loopE_done, loopE_ret]
      rw [hM40]
      exact ⟨rfl, hf18⟩
set_option maxRecDepth 100000 in
set_option maxHeartbeats 2000000 in
theorem c_i_GoodKey {w : World} (p_s : Str) (o1 : okS p_s) : Cal Try.prog 55 #[.string (bs (p_s))] w fun v w' => v = .bool ((i_GoodKey p_s)) ∧ Ex w w' := by
  have hol2 : p_s.length ≤ 1073741824 := o1
  refine Cal.of (vs := [.string (bs (p_s))]) Try.func55 rfl Try.ntmps55 rfl ?_
  refine CW.seq ?_
  refine CW.region ?_
  refine SeqR.d1 rfl rfl rfl (yl_assign rfl rfl ?_)
  refine SeqR.done ?_
  refine tn ?_
  refine CW.seq ?_
  refine CW.region ?_
  refine SeqR.d1 rfl rfl rfl (yl_move rfl rfl ?_)
  refine SeqR.d1 rfl rfl rfl (yl_slen Try.un9 (a := p_s) rfl rfl ?_)
  refine SeqR.d1 rfl rfl rfl (yl_call Try.en56 rfl (opvs_cons rfl (opvs_cons rfl (opvs_cons rfl opvs_nil))) (Cal.mono (c_i_within (p_s.length : Int) 1 12) ?_))
  rintro v4 w3 ⟨rfl, hE5⟩
  have hE5z := Ex.size hE5
  refine SeqR.d1 rfl rfl rfl (yl_move rfl rfl ?_)
  refine bcase (i_within (p_s.length : Int) 1 12) (fun hb6 => ?_) (fun hb6 => ?_)
  · have hb6p := f_within hb6
    refine SeqR.y rfl rfl rfl rfl rfl hb6 (yl_move rfl rfl ?_)
    refine SeqR.y rfl rfl rfl rfl rfl hb6 (yl_call Try.en100 rfl (opvs_cons rfl (opvs_cons rfl opvs_nil)) (Cal.mono (c_i_hasBytes p_s ([46, 47] : Str) o1 (by unfold okS; decide)) ?_))
    rintro v8 w7 ⟨rfl, hE9⟩
    have hE9z := Ex.size hE9
    refine SeqR.d1 rfl rfl rfl (yl_pick_t rfl rfl hb6 rfl ?_)
    refine SeqR.d1 rfl rfl rfl (yl_assign rfl rfl ?_)
    refine SeqR.done ?_
    refine tn ?_
    refine CW.ret ?_
    refine rr rfl (.cons rfl .nil) ?_
    have hM10 : (i_GoodKey p_s) = ((i_hasBytes p_s ([46, 47] : Str))) := by simp only [i_GoodKey, hb6, cond_true, cond_false, loopE_done, loopE_ret]
    rw [hM10]
    have q11 := Ex.trans (Ex.refl w) hE5
    have q12 := Ex.trans q11 hE9
    exact ⟨rfl, q12⟩
  · skip
    refine SeqR.z rfl rfl rfl rfl rfl hb6 ?_
    refine SeqR.z rfl rfl rfl rfl rfl hb6 ?_
    refine SeqR.d1 rfl rfl rfl (yl_pick_f rfl rfl hb6 rfl ?_)
    refine SeqR.d1 rfl rfl rfl (yl_assign rfl rfl ?_)
    refine SeqR.done ?_
    refine tn ?_
    refine CW.ret ?_
    refine rr rfl (.cons rfl .nil) ?_
    have hM13 : (i_GoodKey p_s) = (false) := by simp only [i_GoodKey, hb6, cond_true, cond_false, loopE_done, loopE_ret]
    rw [hM13]
    have q14 := Ex.trans (Ex.refl w) hE5
    exact ⟨rfl, q14⟩
set_option maxRecDepth 100000 in
set_option maxHeartbeats 2000000 in
theorem c_i_areRising {A1 : Option Addr} {c1 : Nat} {w : World} (p_keys : List Str) (h1 : RdS w (Iv 0 w.heap.size) (RF e_Str) 1 A1 p_keys.length c1 p_keys) (o2 : (okL okS) p_keys) : Cal Try.prog 129 #[.slice A1 p_keys.length c1] w fun v w' => v = .bool ((i_areRising p_keys)) ∧ Ex w w' := by
  have hol3 := o2.1
  refine Cal.of (vs := [.slice A1 p_keys.length c1]) Try.func129 rfl Try.ntmps129 rfl ?_
  refine CW.seq ?_
  refine CW.region ?_
  refine SeqR.d1 rfl rfl rfl (yl_assign rfl rfl ?_)
  refine SeqR.done ?_
  refine tn ?_
  refine CW.seq ?_
  refine CW.seq ?_
  refine CW.region ?_
  refine SeqR.d1 rfl rfl rfl (yl_move rfl rfl ?_)
  refine SeqR.d1 rfl rfl rfl (yl_len Try.un73 rfl rfl ?_)
  refine SeqR.d1 rfl rfl rfl (yl_move rfl rfl ?_)
  refine SeqR.done ?_
  refine tn ?_
  refine CW.block ?_
  refine CW.loop (fun m5 L6 w7 => ∃ (k4 : Nat), m5 = p_keys.length - k4 ∧ k4 ≤ p_keys.length ∧ lkp L6 0 = some (.slice A1 p_keys.length c1) ∧ lkp L6 5 = some (.slice A1 p_keys.length c1) ∧ lkp L6 6 = some (.int .i64 ((p_keys.length : Int))) ∧ lkp L6 7 = some (.int .i64 ((k4 : Int))) ∧ RdS w7 (Iv 0 w.heap.size) (RF e_Str) 1 A1 p_keys.length c1 p_keys ∧ Ex w w7 ∧ loopM (B_i_areRising_0 p_keys) (p_keys.length - k4) k4 () = loopM (B_i_areRising_0 p_keys) (p_keys.length - 0) 0 ()) (p_keys.length - 0) ?_ ?_
  · exact ⟨0, rfl, Nat.zero_le _, rfl, rfl, rfl, rfl, h1, (Ex.refl w), rfl⟩
  · rintro m8 L9 w10 ⟨k4, rfl, hk11, hl13, hl14, hl15, hl16, hf17, hf18, hI12⟩
    refine CW.sub (Sub.cons hl13 (Sub.cons hl14 (Sub.cons hl15 (Sub.cons hl16 (Sub.nil _))))) ?_
    have hf18z := Ex.size hf18
    have hbg19 := RdS.big hf17
    rcases Nat.lt_or_ge k4 p_keys.length with hlt20 | hlt20
    · skip
      refine CW.seq ?_
      refine CW.region ?_
      refine SeqR.d1 rfl rfl rfl (yl_lss rfl rfl rfl ?_)
      refine SeqR.done ?_
      refine tn ?_
      refine CW.seq ?_
      refine CW.cond_t rfl (lt_t hlt20) ?_
      refine CW.skip ?_
      refine tn ?_
      refine CW.seq ?_
      refine CW.block ?_
      refine CW.seq ?_
      refine CW.region ?_
      refine SeqR.d1 rfl rfl rfl (yl_move rfl rfl ?_)
      obtain ⟨eb21, eo21, ec21, eA21, eS21, ebl21, el21, eR21, eC21⟩ := RdS.atD hf17 d_Str (i := k4) (by first | omega | assumption)
      obtain rfl := eR21
      have eC21 : Cells w10 eb21 (eo21 + k4 * 1) [.string (bs ((p_keys.getD k4 d_Str)))] := eC21
      refine SeqR.d1 rfl rfl rfl (yl_indexAddrN Try.un73 Try.ty9 rfl rfl rfl eA21 (by first | omega | assumption | (simp only [IntKind.wrap_i64] at *; omega)) ?_)
      refine SeqR.d1 rfl rfl rfl (yl_load1 Try.ty9 rfl rfl (eC21 0 _ rfl) ?_)
      refine SeqR.d1 rfl rfl rfl (yl_assign rfl rfl ?_)
      refine SeqR.d1 rfl rfl rfl (yl_assign rfl rfl ?_)
      refine SeqR.done ?_
      refine tn ?_
      refine CW.seq ?_
      refine CW.region ?_
      refine SeqR.d1 rfl rfl rfl (yl_move rfl rfl ?_)
      refine SeqR.d1 rfl rfl rfl (yl_call Try.en55 rfl (opvs_cons rfl opvs_nil) (Cal.mono (c_i_GoodKey (p_keys.getD k4 d_Str) (okL.getD o2 ok_d_Str _)) ?_))
      rintro v23 w22 ⟨rfl, hE24⟩
      have hE24z := Ex.size hE24
      refine SeqR.d1 rfl rfl rfl (yl_not rfl rfl ?_)
      refine SeqR.d1 rfl rfl rfl (yl_move rfl rfl ?_)
      refine bcase (i_GoodKey (p_keys.getD k4 d_Str)) (fun hb25 => ?_) (fun hb25 => ?_)
      · skip
        refine SeqR.y rfl rfl rfl rfl rfl (not_t hb25) (yl_move rfl rfl ?_)
        refine SeqR.y rfl rfl rfl rfl rfl (not_t hb25) (yl_gtr rfl rfl rfl ?_)
        refine SeqR.y rfl rfl rfl rfl rfl (not_t hb25) (yl_move rfl rfl ?_)
        refine bcase (decide (0 < (k4 : Int))) (fun hb26 => ?_) (fun hb26 => ?_)
        · have hb26p := dec_t hb26
          refine SeqR.y rfl rfl rfl rfl rfl hb26 (yl_move rfl rfl ?_)
          refine SeqR.y rfl rfl rfl rfl rfl hb26 (yl_move rfl rfl ?_)
          refine SeqR.y rfl rfl rfl rfl rfl hb26 (yl_move rfl rfl ?_)
          refine SeqR.y rfl rfl rfl rfl rfl hb26 (yl_sub rfl rfl rfl ?_)
          have q27 := RdS.ex good_Str hf17 hE24
          obtain ⟨eb28, eo28, ec28, eA28, eS28, ebl28, el28, eR28, eC28⟩ := RdS.atD q27 d_Str (i := (IntKind.wrap .i64 ((k4 : Int) - 1)).toNat) (by first | omega | assumption | (simp only [IntKind.wrap_i64] at *; omega))
          obtain rfl := eR28
          have eC28 : Cells w22 eb28 (eo28 + ((IntKind.wrap .i64 ((k4 : Int) - 1)).toNat) * 1) [.string (bs ((p_keys.getD ((IntKind.wrap .i64 ((k4 : Int) - 1)).toNat) d_Str)))] := eC28
          refine SeqR.y rfl rfl rfl rfl rfl hb26 (yl_indexAddr Try.un73 Try.ty9 rfl rfl rfl eA28 (by first | omega | assumption | (simp only [IntKind.wrap_i64] at *; omega)) (by first | omega | assumption | (simp only [IntKind.wrap_i64] at *; omega)) ?_)
          refine SeqR.y rfl rfl rfl rfl rfl hb26 (yl_load1 Try.ty9 rfl rfl (eC28 0 _ rfl) ?_)
          refine SeqR.y rfl rfl rfl rfl rfl hb26 (yl_sleq (a := (p_keys.getD k4 d_Str)) (b := (p_keys.getD ((IntKind.wrap .i64 ((k4 : Int) - 1)).toNat) d_Str)) rfl rfl rfl ?_)
          refine SeqR.y rfl rfl rfl rfl rfl (not_t hb25) (yl_pick_t rfl rfl hb26 rfl ?_)
          refine SeqR.d1 rfl rfl rfl (yl_pick_f rfl rfl (not_t hb25) rfl ?_)
          refine SeqR.done ?_
          refine tn ?_
          refine bcase (sLe (p_keys.getD k4 d_Str) (p_keys.getD ((IntKind.wrap .i64 ((k4 : Int) - 1)).toNat) d_Str)) (fun hb29 => ?_) (fun hb29 => ?_)
          · skip
            refine CW.cond_t rfl hb29 ?_
            refine CW.seq ?_
            refine CW.region ?_
            refine SeqR.d1 rfl rfl rfl (yl_assign rfl rfl ?_)
            refine SeqR.done ?_
            refine tn ?_
            refine CW.ret ?_
            refine br ?_
            refine tr ?_
            refine tr ?_
            have hB31 : B_i_areRising_0 p_keys k4 () = .ret false := by simp only [B_i_areRising_0, hb25, hb26, hb29, cond_true, cond_false, loopE_done, loopE_ret]
            have hL30 : loopM (B_i_areRising_0 p_keys) (p_keys.length - 0) 0 () = .ret false := hI12.symm.trans (loopM.ret hlt20 hB31)
            refine br ?_
            refine tr ?_
            refine rr rfl (.cons rfl .nil) ?_
            have hM32 : (i_areRising p_keys) = (false) := by simp only [i_areRising, hb25, hb26, hb29, hL30, cond_true, cond_false, loopE_done, loopE_ret]
            rw [hM32]
            have q33 := Ex.trans hf18 hE24
            exact ⟨rfl, q33⟩
          · skip
            refine CW.cond_f rfl hb29 ?_
            refine CW.skip ?_
            refine bn ?_
            refine tn ?_
            refine CW.region ?_
            refine SeqR.d1 rfl rfl rfl (yl_inc rfl rfl rfl (by omega) ?_)
            refine SeqR.d1 rfl rfl rfl (yl_move rfl rfl ?_)
            refine SeqR.done ?_
            refine tn ?_
            have hB34 : B_i_areRising_0 p_keys k4 () = .cont () := by simp only [B_i_areRising_0, hb25, hb26, hb29, cond_true, cond_false, loopE_done, loopE_ret]
            have q35 := Ex.trans hf18 hE24
            exact ⟨p_keys.length - (k4 + 1), by omega, k4 + 1, rfl, hlt20, rfl, rfl, rfl, rfl, q27, q35, (loopM.cont hlt20 hB34).symm.trans hI12⟩
        · have hb26p := dec_f hb26
          refine SeqR.z rfl rfl rfl rfl rfl hb26 ?_
          refine SeqR.z rfl rfl rfl rfl rfl hb26 ?_
          refine SeqR.z rfl rfl rfl rfl rfl hb26 ?_
          refine SeqR.z rfl rfl rfl rfl rfl hb26 ?_
          refine SeqR.z rfl rfl rfl rfl rfl hb26 ?_
          refine SeqR.z rfl rfl rfl rfl rfl hb26 ?_
          refine SeqR.z rfl rfl rfl rfl rfl hb26 ?_
          refine SeqR.y rfl rfl rfl rfl rfl (not_t hb25) (yl_pick_f rfl rfl hb26 rfl ?_)
          refine SeqR.d1 rfl rfl rfl (yl_pick_f rfl rfl (not_t hb25) rfl ?_)
          refine SeqR.done ?_
          refine tn ?_
          refine CW.cond_f rfl rfl ?_
          refine CW.skip ?_
          refine bn ?_
          refine tn ?_
          refine CW.region ?_
          refine SeqR.d1 rfl rfl rfl (yl_inc rfl rfl rfl (by omega) ?_)
          refine SeqR.d1 rfl rfl rfl (yl_move rfl rfl ?_)
          refine SeqR.done ?_
          refine tn ?_
          have hB36 : B_i_areRising_0 p_keys k4 () = .cont () := by simp only [B_i_areRising_0, hb25, hb26, cond_true, cond_false, loopE_done, loopE_ret]
          have q37 := RdS.ex good_Str hf17 hE24
          have q38 := Ex.trans hf18 hE24
          exact ⟨p_keys.length - (k4 + 1), by omega, k4 + 1, rfl, hlt20, rfl, rfl, rfl, rfl, q37, q38, (loopM.cont hlt20 hB36).symm.trans hI12⟩
      · skip
        refine SeqR.z rfl rfl rfl rfl rfl (not_f hb25) ?_
        refine SeqR.z rfl rfl rfl rfl rfl (not_f hb25) ?_
        refine SeqR.z rfl rfl rfl rfl rfl (not_f hb25) ?_
        refine SeqR.q rfl rfl rfl rfl rfl ?_
        refine SeqR.q rfl rfl rfl rfl rfl ?_
        refine SeqR.q rfl rfl rfl rfl rfl ?_
        refine SeqR.q rfl rfl rfl rfl rfl ?_
        refine SeqR.q rfl rfl rfl rfl rfl ?_
        refine SeqR.q rfl rfl rfl rfl rfl ?_
        refine SeqR.q rfl rfl rfl rfl rfl ?_
        refine SeqR.z rfl rfl rfl rfl rfl (not_f hb25) ?_
        refine SeqR.d1 rfl rfl rfl (yl_pick_t rfl rfl (not_f hb25) rfl ?_)
        refine SeqR.done ?_
        refine tn ?_
        refine CW.cond_t rfl rfl ?_
        refine CW.seq ?_
        refine CW.region ?_
        refine SeqR.d1 rfl rfl rfl (yl_assign rfl rfl ?_)
        refine SeqR.done ?_
        refine tn ?_
        refine CW.ret ?_
        refine br ?_
        refine tr ?_
        refine tr ?_
        have hB40 : B_i_areRising_0 p_keys k4 () = .ret false := by simp only [B_i_areRising_0, hb25, cond_true, cond_false, loopE_done, loopE_ret]
        have hL39 : loopM (B_i_areRising_0 p_keys) (p_keys.length - 0) 0 () = .ret false := hI12.symm.trans (loopM.ret hlt20 hB40)
        refine br ?_
        refine tr ?_
        refine rr rfl (.cons rfl .nil) ?_
        have hM41 : (i_areRising p_keys) = (false) := by simp only [i_areRising, hb25, hL39, cond_true, cond_false, loopE_done, loopE_ret]
        rw [hM41]
        have q42 := Ex.trans hf18 hE24
        exact ⟨rfl, q42⟩
    · skip
      refine CW.seq ?_
      refine CW.region ?_
      refine SeqR.d1 rfl rfl rfl (yl_lss rfl rfl rfl ?_)
      refine SeqR.done ?_
      refine tn ?_
      refine CW.seq ?_
      refine CW.cond_f rfl (lt_f hlt20) ?_
      refine CW.exit ?_
      refine tx ?_
      refine tx ?_
      have hL43 : loopM (B_i_areRising_0 p_keys) (p_keys.length - 0) 0 () = .done () := hI12.symm.trans (loopM.stop hlt20)
      refine bx ?_
      refine tn ?_
      refine CW.seq ?_
      refine CW.region ?_
      refine SeqR.d1 rfl rfl rfl (yl_assign rfl rfl ?_)
      refine SeqR.done ?_
      refine tn ?_
      refine CW.ret ?_
      refine rr rfl (.cons rfl .nil) ?_
      have hM44 : (i_areRising p_keys) = (true) := by simp only [i_areRising, hL43, cond_true, cond_false, loopE_done, loopE_ret]
      rw [hM44]
      exact ⟨rfl, hf18⟩
set_option maxRecDepth 100000 in
set_option maxHeartbeats 2000000 in
theorem c_i_writeKeys {A1 : Option Addr} {c1 : Nat} {w : World} (p_l : List DWrite) (h1 : RdS w (Iv 0 w.heap.size) (RF e_Write) 3 A1 p_l.length c1 p_l) (o2 : (okL ok_Write) p_l) : Cal Try.prog 130 #[.slice A1 p_l.length c1] w fun v w' => ∃ A_1 c_1, v = .slice A_1 ((i_writeKeys p_l).length) c_1 ∧ RdS w' (Iv w.heap.size w'.heap.size) (RF e_Str) 1 A_1 (i_writeKeys p_l).length c_1 (i_writeKeys p_l) ∧ Ex w w' := by
  have hol3 := o2.1
  refine Cal.of (vs := [.slice A1 p_l.length c1]) Try.func130 rfl Try.ntmps130 rfl ?_
  refine CW.seq ?_
  refine CW.region ?_
  refine SeqR.d1 rfl rfl rfl (yl_assign rfl rfl ?_)
  refine SeqR.done ?_
  refine tn ?_
  refine CW.seq ?_
  refine CW.region ?_
  refine SeqR.d1 rfl rfl rfl (yl_buildSlice (cs := []) Try.un73 Try.ty9 (by decide) rfl opvs_nil (by kernel_rfl) ?_)
  intro b4 w5 hs6 hz7 hB8 hE9
  have hO10 : OwnL w5 b4 (b4 + 1) 9 1 (RF e_Str) (some ⟨b4, 0, none⟩) 0 0 ([] : List Str) := OwnL.of_box (S := fun _ => False) hB8 (Nat.le_refl _) (Nat.lt_succ_self _) EncL.nil (Nat.le_of_ble_eq_true rfl) (fun h => h) (fun _ h => False.elim h)
  refine SeqR.d1 rfl rfl rfl (yl_assign rfl rfl ?_)
  refine SeqR.done ?_
  refine tn ?_
  refine CW.seq ?_
  refine CW.seq ?_
  refine CW.region ?_
  refine SeqR.d1 rfl rfl rfl (yl_move rfl rfl ?_)
  refine SeqR.d1 rfl rfl rfl (yl_len Try.un67 rfl rfl ?_)
  refine SeqR.d1 rfl rfl rfl (yl_move rfl rfl ?_)
  refine SeqR.done ?_
  refine tn ?_
  refine CW.block ?_
  have q43 := RdS.ex good_Write h1 hE9
  have q44 := Ex.trans (Ex.refl w) hE9
  refine CW.loop (fun m40 L41 w42 => ∃ (k11 : Nat) (x36 : List Str) (A37 : Option Addr) (c38 : Nat) (u39 : Nat), m40 = p_l.length - k11 ∧ k11 ≤ p_l.length ∧ lkp L41 3 = some (.slice A37 x36.length c38) ∧ lkp L41 7 = some (.slice A1 p_l.length c1) ∧ lkp L41 8 = some (.int .i64 ((p_l.length : Int))) ∧ lkp L41 9 = some (.int .i64 ((k11 : Int))) ∧ OwnL w42 b4 u39 9 1 (RF e_Str) A37 x36.length c38 x36 ∧ RdS w42 (Iv 0 w.heap.size) (RF e_Write) 3 A1 p_l.length c1 p_l ∧ Ex w w42 ∧ u39 ≤ w42.heap.size ∧ x36.length ≤ 0 + 1 * (k11 - 0) ∧ loopM (B_i_writeKeys_0 p_l) (p_l.length - k11) k11 (x36) = loopM (B_i_writeKeys_0 p_l) (p_l.length - 0) 0 (([] : List Str))) (p_l.length - 0) ?_ ?_
  · exact ⟨0, ([] : List Str), (some ⟨b4, 0, none⟩), 0, (b4 + 1), rfl, Nat.zero_le _, rfl, rfl, rfl, rfl, hO10, q43, q44, (by omega), (by first | (simp; done) | (first | omega | (simp only [List.length_append, List.length_cons, List.length_nil, List.length_set]; omega))), rfl⟩
  · rintro m45 L46 w47 ⟨k11, x36, A37, c38, u39, rfl, hk48, hl50, hl51, hl52, hl53, hf54, hf55, hf56, hu57, hln58, hI49⟩
    refine CW.sub (Sub.cons hl50 (Sub.cons hl51 (Sub.cons hl52 (Sub.cons hl53 (Sub.nil _))))) ?_
    have hf56z := Ex.size hf56
    have hbg59 := RdS.big hf55
    rcases Nat.lt_or_ge k11 p_l.length with hlt60 | hlt60
    · skip
      refine CW.seq ?_
      refine CW.region ?_
      refine SeqR.d1 rfl rfl rfl (yl_lss rfl rfl rfl ?_)
      refine SeqR.done ?_
      refine tn ?_
      refine CW.seq ?_
      refine CW.cond_t rfl (lt_t hlt60) ?_
      refine CW.skip ?_
      refine tn ?_
      refine CW.seq ?_
      refine CW.block ?_
      refine CW.seq ?_
      refine CW.region ?_
      obtain ⟨eb61, eo61, ec61, eA61, eS61, ebl61, el61, eR61, eC61⟩ := RdS.atD hf55 d_Write (i := k11) (by first | omega | assumption)
      obtain rfl := eR61
      have eC61 : Cells w47 eb61 (eo61 + k11 * 3) [.string (bs ((p_l.getD k11 d_Write).Key)), .string (bs ((p_l.getD k11 d_Write).Val)), .bool ((p_l.getD k11 d_Write).Gone)] := eC61
      refine SeqR.d1 rfl rfl rfl (yl_indexAddrN Try.un67 Try.ty139 rfl rfl rfl eA61 (by first | omega | assumption | (simp only [IntKind.wrap_i64] at *; omega)) ?_)
      refine SeqR.d1 rfl rfl rfl (yl_loadN (cs := [.string (bs ((p_l.getD k11 d_Write).Key)), .string (bs ((p_l.getD k11 d_Write).Val)), .bool ((p_l.getD k11 d_Write).Gone)]) Try.ty139 rfl rfl eC61 rfl ?_)
      refine SeqR.d1 rfl rfl rfl (yl_alloc Try.ty139 (cs := [.string (bs (([] : Str))), .string (bs (([] : Str))), .bool (false)]) rfl rfl ?_)
      intro b62 w63 hs64 hz65 hB66 hE67
      refine SeqR.u rfl rfl (yl_store (vs := [.string (bs ((p_l.getD k11 d_Write).Key)), .string (bs ((p_l.getD k11 d_Write).Val)), .bool ((p_l.getD k11 d_Write).Gone)]) Try.ty139 rfl rfl rfl rfl rfl rfl hB66 (Nat.le_of_ble_eq_true rfl) ?_)
      intro w68 hB69 hO70
      have hB69 : Box w68 b62 139 [.string (bs ((p_l.getD k11 d_Write).Key)), .string (bs ((p_l.getD k11 d_Write).Val)), .bool ((p_l.getD k11 d_Write).Gone)] := hB69
      have hO70z := hO70.size
      refine SeqR.done ?_
      refine tn ?_
      refine CW.region ?_
      refine SeqR.d1 rfl rfl rfl (yl_move rfl rfl ?_)
      refine SeqR.d1 rfl rfl rfl (yl_fieldAddr Try.fd139_0 rfl rfl ?_)
      refine SeqR.d1 rfl rfl rfl (yl_load1 Try.ty9 rfl rfl ((hB69.cell 0).trans rfl) ?_)
      refine SeqR.d1 rfl rfl rfl (yl_buildSlice (cs := [.string (bs ((p_l.getD k11 d_Write).Key))]) Try.un73 Try.ty9 (by decide) rfl (opvs_cons rfl opvs_nil) (by kernel_rfl) ?_)
      intro b71 w72 hs73 hz74 hB75 hE76
      have hO77 : OwnL w72 b71 (b71 + 1) 9 1 (RF e_Str) (some ⟨b71, 0, none⟩) 1 1 ([(p_l.getD k11 d_Write).Key] : List Str) := OwnL.of_box (S := fun _ => False) hB75 (Nat.le_refl _) (Nat.lt_succ_self _) (EncL.cons (c := [.string (bs ((p_l.getD k11 d_Write).Key))]) rfl rfl EncL.nil) (Nat.le_of_ble_eq_true rfl) (fun h => h) (fun _ h => False.elim h)
      have q78 := OwnL.ex good_Str hf54 hE67
      have q79 := OwnL.only good_Str q78 hO70 (by omega)
      have q80 := OwnL.ex good_Str q79 hE76
      have hrg81 := OwnL.rng q80
      refine SeqR.d1 rfl rfl rfl (yl_appendL (S := (fun _ => False)) (lo := b4) (hi := u39) (xs := x36) (ys := ([(p_l.getD k11 d_Write).Key] : List Str)) good_Str Try.un73 Try.ty9 rfl (Nat.le_of_ble_eq_true rfl) rfl rfl rfl q80 (EncL.cons (c := [.string (bs ((p_l.getD k11 d_Write).Key))]) rfl rfl EncL.nil) (Or.inr ⟨_, _, rfl, rfl, hB75.cells (o := 0) (n := 1) rfl⟩) rfl (by first | omega | (simp only [List.length_append, List.length_cons, List.length_nil, List.length_take, List.length_drop, List.length_set, List.length_replicate]; omega)) (by first | omega | (simp only [List.length_append, List.length_cons, List.length_nil, List.length_take, List.length_drop, List.length_set, List.length_replicate]; omega)) (by omega) (fun _ _ h => h) (fun _ h => False.elim h) ?_)
      intro A82 c83 w84 hO85 hG86 hA87
      have hG86z := hG86.size
      refine SeqR.d1 rfl rfl rfl (yl_assign rfl rfl ?_)
      refine SeqR.done ?_
      refine bn ?_
      refine tn ?_
      refine CW.region ?_
      refine SeqR.d1 rfl rfl rfl (yl_inc rfl rfl rfl (by omega) ?_)
      refine SeqR.d1 rfl rfl rfl (yl_move rfl rfl ?_)
      refine SeqR.done ?_
      refine tn ?_
      have hB88 : B_i_writeKeys_0 p_l k11 (x36) = .cont ((x36 ++ ([(p_l.getD k11 d_Write).Key] : List Str))) := by simp only [B_i_writeKeys_0, cond_true, cond_false, loopE_done, loopE_ret]
      have q89 := RdS.ex good_Write hf55 hE67
      have q90 := RdS.only good_Write q89 hO70 (by simp only [Iv]; omega)
      have q91 := RdS.ex good_Write q90 hE76
      have q92 := RdS.grown good_Write q91 hG86 (fun k hk => by have := hrg81 k hk; simp only [Iv]; omega)
      have q93 := Ex.trans hf56 hE67
      have q94 := Below.only q93 hO70 (by omega)
      have q95 := Ex.trans q94 hE76
      have q96 := Below.grown q95 hG86 (by omega) (fun k hk => by have := hrg81 k hk; omega)
      exact ⟨p_l.length - (k11 + 1), by omega, k11 + 1, (x36 ++ ([(p_l.getD k11 d_Write).Key] : List Str)), A82, c83, w84.heap.size, rfl, hlt60, rfl, rfl, rfl, rfl, hO85, q92, q96, (by omega), (by first | omega | (simp only [List.length_append, List.length_cons, List.length_nil, List.length_set]; omega)), (loopM.cont hlt60 hB88).symm.trans hI49⟩
    · skip
      refine CW.seq ?_
      refine CW.region ?_
      refine SeqR.d1 rfl rfl rfl (yl_lss rfl rfl rfl ?_)
      refine SeqR.done ?_
      refine tn ?_
      refine CW.seq ?_
      refine CW.cond_f rfl (lt_f hlt60) ?_
      refine CW.exit ?_
      refine tx ?_
      refine tx ?_
      have hL97 : loopM (B_i_writeKeys_0 p_l) (p_l.length - 0) 0 (([] : List Str)) = .done (x36) := hI49.symm.trans (loopM.stop hlt60)
      refine bx ?_
      refine tn ?_
      refine CW.seq ?_
      refine CW.region ?_
      refine SeqR.d1 rfl rfl rfl (yl_move rfl rfl ?_)
      refine SeqR.d1 rfl rfl rfl (yl_assign rfl rfl ?_)
      refine SeqR.done ?_
      refine tn ?_
      refine CW.ret ?_
      refine rr rfl (.cons rfl .nil) ?_
      have hM98 : (i_writeKeys p_l) = (x36) := by simp only [i_writeKeys, hL97, cond_true, cond_false, loopE_done, loopE_ret]
      have q99 := OwnL.rd good_Str hf54
      rw [hM98]
      exact ⟨A37, c38, rfl, (RdS.wideI good_Str q99 (by omega)), hf56⟩
set_option maxRecDepth 100000 in
set_option maxHeartbeats 2000000 in
theorem c_i_GoodVal {w : World} (p_s : Str) (o1 : okS p_s) : Cal Try.prog 139 #[.string (bs (p_s))] w fun v w' => v = .bool ((i_GoodVal p_s)) ∧ Ex w w' := by
  have hol2 : p_s.length ≤ 1073741824 := o1
  refine Cal.of (vs := [.string (bs (p_s))]) Try.func139 rfl Try.ntmps139 rfl ?_
  refine CW.seq ?_
  refine CW.region ?_
  refine SeqR.d1 rfl rfl rfl (yl_assign rfl rfl ?_)
  refine SeqR.done ?_
  refine tn ?_
  refine CW.seq ?_
  refine CW.region ?_
  refine SeqR.d1 rfl rfl rfl (yl_move rfl rfl ?_)
  refine SeqR.d1 rfl rfl rfl (yl_slen Try.un9 (a := p_s) rfl rfl ?_)
  refine SeqR.d1 rfl rfl rfl (yl_leq rfl rfl rfl ?_)
  refine SeqR.d1 rfl rfl rfl (yl_move rfl rfl ?_)
  refine bcase (decide ((p_s.length : Int) ≤ 24)) (fun hb3 => ?_) (fun hb3 => ?_)
  · have hb3p := dec_t hb3
    refine SeqR.y rfl rfl rfl rfl rfl hb3 (yl_move rfl rfl ?_)
    refine SeqR.y rfl rfl rfl rfl rfl hb3 (yl_call Try.en100 rfl (opvs_cons rfl (opvs_cons rfl opvs_nil)) (Cal.mono (c_i_hasBytes p_s ([46, 45, 44, 95] : Str) o1 (by unfold okS; decide)) ?_))
    rintro v5 w4 ⟨rfl, hE6⟩
    have hE6z := Ex.size hE6
    refine SeqR.d1 rfl rfl rfl (yl_pick_t rfl rfl hb3 rfl ?_)
    refine SeqR.d1 rfl rfl rfl (yl_assign rfl rfl ?_)
    refine SeqR.done ?_
    refine tn ?_
    refine CW.ret ?_
    refine rr rfl (.cons rfl .nil) ?_
    have hM7 : (i_GoodVal p_s) = ((i_hasBytes p_s ([46, 45, 44, 95] : Str))) := by simp only [i_GoodVal, hb3, cond_true, cond_false, loopE_done, loopE_ret]
    rw [hM7]
    have q8 := Ex.trans (Ex.refl w) hE6
    exact ⟨rfl, q8⟩
  · have hb3p := dec_f hb3
    refine SeqR.z rfl rfl rfl rfl rfl hb3 ?_
    refine SeqR.z rfl rfl rfl rfl rfl hb3 ?_
    refine SeqR.d1 rfl rfl rfl (yl_pick_f rfl rfl hb3 rfl ?_)
    refine SeqR.d1 rfl rfl rfl (yl_assign rfl rfl ?_)
    refine SeqR.done ?_
    refine tn ?_
    refine CW.ret ?_
    refine rr rfl (.cons rfl .nil) ?_
    have hM9 : (i_GoodVal p_s) = (false) := by simp only [i_GoodVal, hb3, cond_true, cond_false, loopE_done, loopE_ret]
    rw [hM9]
    exact ⟨rfl, (Ex.refl w)⟩
set_option maxRecDepth 100000 in
set_option maxHeartbeats 2000000 in
theorem c_i_isStored {w : World} (p_val : Str) (p_gone : Bool) (o1 : okS p_val) : Cal Try.prog 132 #[.string (bs (p_val)), .bool (p_gone)] w fun v w' => v = .bool ((i_isStored p_val p_gone)) ∧ Ex w w' := by
  have hol2 : p_val.length ≤ 1073741824 := o1
  refine Cal.of (vs := [.string (bs (p_val)), .bool (p_gone)]) Try.func132 rfl Try.ntmps132 rfl ?_
  refine CW.seq ?_
  refine CW.region ?_
  refine SeqR.d1 rfl rfl rfl (yl_assign rfl rfl ?_)
  refine SeqR.done ?_
  refine tn ?_
  refine CW.seq ?_
  refine CW.region ?_
  refine SeqR.d1 rfl rfl rfl (yl_move rfl rfl ?_)
  refine SeqR.d1 rfl rfl rfl (yl_call Try.en139 rfl (opvs_cons rfl opvs_nil) (Cal.mono (c_i_GoodVal p_val o1) ?_))
  rintro v4 w3 ⟨rfl, hE5⟩
  have hE5z := Ex.size hE5
  refine SeqR.d1 rfl rfl rfl (yl_move rfl rfl ?_)
  refine bcase (i_GoodVal p_val) (fun hb6 => ?_) (fun hb6 => ?_)
  · skip
    refine SeqR.y rfl rfl rfl rfl rfl hb6 (yl_move rfl rfl ?_)
    refine SeqR.y rfl rfl rfl rfl rfl hb6 (yl_move rfl rfl ?_)
    refine bcase (p_gone) (fun hb7 => ?_) (fun hb7 => ?_)
    · skip
      refine SeqR.y rfl rfl rfl rfl rfl hb7 (yl_move rfl rfl ?_)
      refine SeqR.y rfl rfl rfl rfl rfl hb7 (yl_sneq (a := p_val) (b := ([] : Str)) rfl rfl rfl ?_)
      refine SeqR.y rfl rfl rfl rfl rfl hb6 (yl_pick_t rfl rfl hb7 rfl ?_)
      refine SeqR.y rfl rfl rfl rfl rfl hb6 (yl_not rfl rfl ?_)
      refine SeqR.d1 rfl rfl rfl (yl_pick_t rfl rfl hb6 rfl ?_)
      refine SeqR.d1 rfl rfl rfl (yl_assign rfl rfl ?_)
      refine SeqR.done ?_
      refine tn ?_
      refine CW.ret ?_
      refine rr rfl (.cons rfl .nil) ?_
      have hM8 : (i_isStored p_val p_gone) = (!(!(p_val == ([] : Str)))) := by simp only [i_isStored, hb6, hb7, cond_true, cond_false, loopE_done, loopE_ret]
      rw [hM8]
      have q9 := Ex.trans (Ex.refl w) hE5
      exact ⟨rfl, q9⟩
    · skip
      refine SeqR.z rfl rfl rfl rfl rfl hb7 ?_
      refine SeqR.z rfl rfl rfl rfl rfl hb7 ?_
      refine SeqR.y rfl rfl rfl rfl rfl hb6 (yl_pick_f rfl rfl hb7 rfl ?_)
      refine SeqR.y rfl rfl rfl rfl rfl hb6 (yl_not rfl rfl ?_)
      refine SeqR.d1 rfl rfl rfl (yl_pick_t rfl rfl hb6 rfl ?_)
      refine SeqR.d1 rfl rfl rfl (yl_assign rfl rfl ?_)
      refine SeqR.done ?_
      refine tn ?_
      refine CW.ret ?_
      refine rr rfl (.cons rfl .nil) ?_
      have hM10 : (i_isStored p_val p_gone) = (!false) := by simp only [i_isStored, hb6, hb7, cond_true, cond_false, loopE_done, loopE_ret]
      rw [hM10]
      have q11 := Ex.trans (Ex.refl w) hE5
      exact ⟨rfl, q11⟩
  · skip
    refine SeqR.z rfl rfl rfl rfl rfl hb6 ?_
    refine SeqR.z rfl rfl rfl rfl rfl hb6 ?_
    refine SeqR.q rfl rfl rfl rfl rfl ?_
    refine SeqR.q rfl rfl rfl rfl rfl ?_
    refine SeqR.z rfl rfl rfl rfl rfl hb6 ?_
    refine SeqR.z rfl rfl rfl rfl rfl hb6 ?_
    refine SeqR.d1 rfl rfl rfl (yl_pick_f rfl rfl hb6 rfl ?_)
    refine SeqR.d1 rfl rfl rfl (yl_assign rfl rfl ?_)
    refine SeqR.done ?_
    refine tn ?_
    refine CW.ret ?_
    refine rr rfl (.cons rfl .nil) ?_
    have hM12 : (i_isStored p_val p_gone) = (false) := by simp only [i_isStored, hb6, cond_true, cond_false, loopE_done, loopE_ret]
    rw [hM12]
    have q13 := Ex.trans (Ex.refl w) hE5
    exact ⟨rfl, q13⟩
set_option maxRecDepth 100000 in
set_option maxHeartbeats 2000000 in
theorem c_i_GoodWrites_c1 {w : World} (p_w : DWrite) (o1 : ok_Write p_w) : Cal Try.prog 131 #[.agg #[.string (bs (p_w.Key)), .string (bs (p_w.Val)), .bool (p_w.Gone)]] w fun v w' => v = .bool ((i_GoodWrites_c1 p_w)) ∧ Ex w w' := by
  have hol2 : p_w.Key.length ≤ 1073741824 := o1.1
  have hol3 : p_w.Val.length ≤ 1073741824 := o1.2
  refine Cal.of (vs := [.agg #[.string (bs (p_w.Key)), .string (bs (p_w.Val)), .bool (p_w.Gone)]]) Try.func131 rfl Try.ntmps131 rfl ?_
  refine CW.seq ?_
  refine CW.region ?_
  refine SeqR.d1 rfl rfl rfl (yl_box (cs := [.string (bs (p_w.Key)), .string (bs (p_w.Val)), .bool (p_w.Gone)]) rfl rfl rfl ?_)
  intro b4 w5 hs6 hz7 hB8 hE9
  refine SeqR.d1 rfl rfl rfl (yl_assign rfl rfl ?_)
  refine SeqR.done ?_
  refine tn ?_
  refine CW.seq ?_
  refine CW.region ?_
  refine SeqR.d1 rfl rfl rfl (yl_fieldAddr Try.fd139_1 rfl rfl ?_)
  refine SeqR.d1 rfl rfl rfl (yl_load1 Try.ty9 rfl rfl ((hB8.cell 1).trans rfl) ?_)
  refine SeqR.d1 rfl rfl rfl (yl_fieldAddr Try.fd139_2 rfl rfl ?_)
  refine SeqR.d1 rfl rfl rfl (yl_load1 Try.ty4 rfl rfl ((hB8.cell 2).trans rfl) ?_)
  refine SeqR.d1 rfl rfl rfl (yl_call Try.en132 rfl (opvs_cons rfl (opvs_cons rfl opvs_nil)) (Cal.mono (c_i_isStored p_w.Val p_w.Gone o1.2) ?_))
  rintro v11 w10 ⟨rfl, hE12⟩
  have hE12z := Ex.size hE12
  refine SeqR.d1 rfl rfl rfl (yl_not rfl rfl ?_)
  refine SeqR.d1 rfl rfl rfl (yl_assign rfl rfl ?_)
  refine SeqR.done ?_
  refine tn ?_
  refine CW.ret ?_
  refine rr rfl (.cons rfl .nil) ?_
  have hM13 : (i_GoodWrites_c1 p_w) = (!(i_isStored p_w.Val p_w.Gone)) := by simp only [i_GoodWrites_c1, cond_true, cond_false, loopE_done, loopE_ret]
  rw [hM13]
  have q14 := Ex.trans (Ex.refl w) hE9
  have q15 := Ex.trans q14 hE12
  exact ⟨rfl, q15⟩
end Go.Proofs.Ytnfjabkdlkejkaa
