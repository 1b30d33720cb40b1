/- Good Row: what each call returns, part 1. -/
import Derived.Test.YtnfjabkdlkejkaaGoodRowL
import Derived.Test.YtnfjabkdlkejkaaGoodRowF
set_option linter.unusedVariables false
set_option linter.unusedSimpArgs false
namespace Go.Proofs.Ytnfjabkdlkejkaa
open Go.RowKit Go.X
set_option maxRecDepth 100000 in
set_option maxHeartbeats 2000000 in
theorem c_l_szStringS {A1 : Option Addr} {c1 : Nat} {w : World} (p_a : List Str) (p_left : Int) (h1 : RdS w (Iv 0 w.heap.size) (RF e_Str) 1 A1 p_a.length c1 p_a) : Cal Try.prog 89 #[.slice A1 p_a.length c1, .int .i64 (p_left)] w fun v w' => v = .int .i64 ((l_szStringS p_a p_left)) ∧ Ex w w' := by
  refine Cal.of (vs := [.slice A1 p_a.length c1, .int .i64 (p_left)]) Try.func89 rfl Try.ntmps89 rfl ?_
  refine CW.seq ?_
  refine CW.region ?_
  refine SeqR.d1 rfl rfl rfl (yl_assign rfl rfl ?_)
  refine SeqR.done ?_
  refine tn ?_
  refine CW.seq ?_
  refine CW.region ?_
  refine SeqR.d1 rfl rfl rfl (yl_move rfl rfl ?_)
  refine SeqR.d1 rfl rfl rfl (yl_move rfl rfl ?_)
  refine SeqR.d1 rfl rfl rfl (yl_len Try.un73 rfl rfl ?_)
  refine SeqR.d1 rfl rfl rfl (yl_sub rfl rfl rfl ?_)
  refine SeqR.d1 rfl rfl rfl (yl_assign rfl rfl ?_)
  refine SeqR.done ?_
  refine tn ?_
  refine CW.seq ?_
  refine CW.seq ?_
  refine CW.region ?_
  refine SeqR.d1 rfl rfl rfl (yl_move rfl rfl ?_)
  refine SeqR.d1 rfl rfl rfl (yl_lss rfl rfl rfl ?_)
  refine SeqR.done ?_
  refine tn ?_
  refine bcase (decide ((IntKind.wrap .i64 (p_left - (p_a.length : Int))) < 0)) (fun hb2 => ?_) (fun hb2 => ?_)
  · have hb2p := dec_t hb2
    refine CW.cond_t rfl hb2 ?_
    refine CW.seq ?_
    refine CW.region ?_
    refine SeqR.d1 rfl rfl rfl (yl_assign rfl rfl ?_)
    refine SeqR.done ?_
    refine tn ?_
    refine CW.ret ?_
    refine tr ?_
    refine rr rfl (.cons rfl .nil) ?_
    have hM3 : (l_szStringS p_a p_left) = (-1) := by simp only [l_szStringS, hb2, cond_true, cond_false, loopE_done, loopE_ret]
    rw [hM3]
    exact ⟨rfl, (Ex.refl w)⟩
  · have hb2p := dec_f hb2
    refine CW.cond_f rfl hb2 ?_
    refine CW.skip ?_
    refine tn ?_
    refine CW.seq ?_
    refine CW.seq ?_
    refine CW.region ?_
    refine SeqR.d1 rfl rfl rfl (yl_assign rfl rfl ?_)
    refine SeqR.done ?_
    refine tn ?_
    refine CW.block ?_
    refine CW.loop (fun m6 L7 w8 => ∃ (k4 : Nat) (x5 : Int), m6 = p_a.length - k4 ∧ k4 ≤ p_a.length ∧ lkp L7 0 = some (.slice A1 p_a.length c1) ∧ lkp L7 1 = some (.int .i64 (x5)) ∧ lkp L7 5 = some (.int .i64 ((k4 : Int))) ∧ RdS w8 (Iv 0 w.heap.size) (RF e_Str) 1 A1 p_a.length c1 p_a ∧ Ex w w8 ∧ loopM (B_l_szStringS_0 p_a p_left) (p_a.length - k4) k4 (x5) = loopM (B_l_szStringS_0 p_a p_left) (p_a.length - 0) 0 (IntKind.wrap .i64 (p_left - (p_a.length : Int)))) (p_a.length - 0) ?_ ?_
    · exact ⟨0, IntKind.wrap .i64 (p_left - (p_a.length : Int)), rfl, Nat.zero_le _, rfl, rfl, rfl, h1, (Ex.refl w), rfl⟩
    · rintro m9 L10 w11 ⟨k4, x5, rfl, hk12, hl14, hl15, hl16, hf17, hf18, hI13⟩
      refine CW.sub (Sub.cons hl14 (Sub.cons hl15 (Sub.cons hl16 (Sub.nil _)))) ?_
      have hf18z := Ex.size hf18
      have hbg19 := RdS.big hf17
      rcases Nat.lt_or_ge k4 p_a.length with hlt20 | hlt20
      · skip
        refine CW.seq ?_
        refine CW.seq ?_
        refine CW.region ?_
        refine SeqR.d1 rfl rfl rfl (yl_move rfl rfl ?_)
        refine SeqR.d1 rfl rfl rfl (yl_move rfl rfl ?_)
        refine SeqR.d1 rfl rfl rfl (yl_len Try.un73 rfl rfl ?_)
        refine SeqR.d1 rfl rfl rfl (yl_lss rfl rfl rfl ?_)
        refine SeqR.done ?_
        refine tn ?_
        refine CW.cond_t rfl (lt_t hlt20) ?_
        refine CW.skip ?_
        refine tn ?_
        refine CW.seq ?_
        refine CW.block ?_
        refine CW.seq ?_
        refine CW.region ?_
        refine SeqR.d1 rfl rfl rfl (yl_move rfl rfl ?_)
        refine SeqR.d1 rfl rfl rfl (yl_move rfl rfl ?_)
        refine SeqR.d1 rfl rfl rfl (yl_move rfl rfl ?_)
        obtain ⟨eb21, eo21, ec21, eA21, eS21, ebl21, el21, eR21, eC21⟩ := RdS.atD hf17 d_Str (i := k4) (by first | omega | assumption)
        obtain rfl := eR21
        have eC21 : Cells w11 eb21 (eo21 + k4 * 1) [.string (bs ((p_a.getD k4 d_Str)))] := eC21
        refine SeqR.d1 rfl rfl rfl (yl_indexAddrN Try.un73 Try.ty9 rfl rfl rfl eA21 (by first | omega | assumption | (simp only [IntKind.wrap_i64] at *; omega)) ?_)
        refine SeqR.d1 rfl rfl rfl (yl_load1 Try.ty9 rfl rfl (eC21 0 _ rfl) ?_)
        refine SeqR.d1 rfl rfl rfl (yl_slen Try.un9 (a := (p_a.getD k4 d_Str)) rfl rfl ?_)
        refine SeqR.d1 rfl rfl rfl (yl_sub rfl rfl rfl ?_)
        refine SeqR.d1 rfl rfl rfl (yl_assign rfl rfl ?_)
        refine SeqR.done ?_
        refine tn ?_
        refine CW.seq ?_
        refine CW.region ?_
        refine SeqR.d1 rfl rfl rfl (yl_move rfl rfl ?_)
        refine SeqR.d1 rfl rfl rfl (yl_lss rfl rfl rfl ?_)
        refine SeqR.done ?_
        refine tn ?_
        refine bcase (decide ((IntKind.wrap .i64 (x5 - ((p_a.getD k4 d_Str).length : Int))) < 0)) (fun hb22 => ?_) (fun hb22 => ?_)
        · have hb22p := dec_t hb22
          refine CW.cond_t rfl hb22 ?_
          refine CW.seq ?_
          refine CW.region ?_
          refine SeqR.d1 rfl rfl rfl (yl_assign rfl rfl ?_)
          refine SeqR.done ?_
          refine tn ?_
          refine CW.ret ?_
          refine br ?_
          refine tr ?_
          refine tr ?_
          have hB24 : B_l_szStringS_0 p_a p_left k4 (x5) = .ret (-1) := by simp only [B_l_szStringS_0, hb2, hb22, cond_true, cond_false, loopE_done, loopE_ret]
          have hL23 : loopM (B_l_szStringS_0 p_a p_left) (p_a.length - 0) 0 (IntKind.wrap .i64 (p_left - (p_a.length : Int))) = .ret (-1) := hI13.symm.trans (loopM.ret hlt20 hB24)
          refine br ?_
          refine tr ?_
          refine rr rfl (.cons rfl .nil) ?_
          have hM25 : (l_szStringS p_a p_left) = (-1) := by simp only [l_szStringS, hb2, hb22, hL23, cond_true, cond_false, loopE_done, loopE_ret]
          rw [hM25]
          exact ⟨rfl, hf18⟩
        · have hb22p := dec_f hb22
          refine CW.cond_f rfl hb22 ?_
          refine CW.skip ?_
          refine bn ?_
          refine tn ?_
          refine CW.region ?_
          refine SeqR.d1 rfl rfl rfl (yl_move rfl rfl ?_)
          refine SeqR.d1 rfl rfl rfl (yl_inc rfl rfl rfl (by omega) ?_)
          refine SeqR.d1 rfl rfl rfl (yl_assign rfl rfl ?_)
          refine SeqR.done ?_
          refine tn ?_
          have hB26 : B_l_szStringS_0 p_a p_left k4 (x5) = .cont (IntKind.wrap .i64 (x5 - ((p_a.getD k4 d_Str).length : Int))) := by simp only [B_l_szStringS_0, hb2, hb22, cond_true, cond_false, loopE_done, loopE_ret]
          exact ⟨p_a.length - (k4 + 1), by omega, k4 + 1, IntKind.wrap .i64 (x5 - ((p_a.getD k4 d_Str).length : Int)), rfl, hlt20, rfl, rfl, rfl, hf17, hf18, (loopM.cont hlt20 hB26).symm.trans hI13⟩
      · skip
        refine CW.seq ?_
        refine CW.seq ?_
        refine CW.region ?_
        refine SeqR.d1 rfl rfl rfl (yl_move rfl rfl ?_)
        refine SeqR.d1 rfl rfl rfl (yl_move rfl rfl ?_)
        refine SeqR.d1 rfl rfl rfl (yl_len Try.un73 rfl rfl ?_)
        refine SeqR.d1 rfl rfl rfl (yl_lss rfl rfl rfl ?_)
        refine SeqR.done ?_
        refine tn ?_
        refine CW.cond_f rfl (lt_f hlt20) ?_
        refine CW.exit ?_
        refine tx ?_
        refine tx ?_
        have hL27 : loopM (B_l_szStringS_0 p_a p_left) (p_a.length - 0) 0 (IntKind.wrap .i64 (p_left - (p_a.length : Int))) = .done (x5) := hI13.symm.trans (loopM.stop hlt20)
        refine bx ?_
        refine tn ?_
        refine CW.seq ?_
        refine CW.region ?_
        refine SeqR.d1 rfl rfl rfl (yl_move rfl rfl ?_)
        refine SeqR.d1 rfl rfl rfl (yl_assign rfl rfl ?_)
        refine SeqR.done ?_
        refine tn ?_
        refine CW.ret ?_
        refine rr rfl (.cons rfl .nil) ?_
        have hM28 : (l_szStringS p_a p_left) = (x5) := by simp only [l_szStringS, hb2, hL27, cond_true, cond_false, loopE_done, loopE_ret]
        rw [hM28]
        exact ⟨rfl, hf18⟩
set_option maxRecDepth 100000 in
set_option maxHeartbeats 2000000 in
theorem c_l_szIdx {w : World} (p_a : DIdx) (p_left : Int) : Cal Try.prog 115 #[.agg #[.string (bs (p_a.Name)), .int .i64 (p_a.Col), .int .i64 (p_a.Stage)], .int .i64 (p_left)] w fun v w' => v = .int .i64 ((l_szIdx p_a p_left)) ∧ Ex w w' := by
  refine Cal.of (vs := [.agg #[.string (bs (p_a.Name)), .int .i64 (p_a.Col), .int .i64 (p_a.Stage)], .int .i64 (p_left)]) Try.func115 rfl Try.ntmps115 rfl ?_
  refine CW.seq ?_
  refine CW.region ?_
  refine SeqR.d1 rfl rfl rfl (yl_box (cs := [.string (bs (p_a.Name)), .int .i64 (p_a.Col), .int .i64 (p_a.Stage)]) rfl rfl rfl ?_)
  intro b1 w2 hs3 hz4 hB5 hE6
  refine SeqR.d1 rfl rfl rfl (yl_assign rfl rfl ?_)
  refine SeqR.done ?_
  refine tn ?_
  refine CW.seq ?_
  refine CW.region ?_
  refine SeqR.d1 rfl rfl rfl (yl_move rfl rfl ?_)
  refine SeqR.d1 rfl rfl rfl (yl_fieldAddr Try.fd146_0 rfl rfl ?_)
  refine SeqR.d1 rfl rfl rfl (yl_load1 Try.ty9 rfl rfl ((hB5.cell 0).trans rfl) ?_)
  refine SeqR.d1 rfl rfl rfl (yl_slen Try.un9 (a := p_a.Name) rfl rfl ?_)
  refine SeqR.d1 rfl rfl rfl (yl_sub rfl rfl rfl ?_)
  refine SeqR.d1 rfl rfl rfl (yl_assign rfl rfl ?_)
  refine SeqR.done ?_
  refine tn ?_
  refine CW.seq ?_
  refine CW.seq ?_
  refine CW.region ?_
  refine SeqR.d1 rfl rfl rfl (yl_move rfl rfl ?_)
  refine SeqR.d1 rfl rfl rfl (yl_lss rfl rfl rfl ?_)
  refine SeqR.done ?_
  refine tn ?_
  refine bcase (decide ((IntKind.wrap .i64 (p_left - (p_a.Name.length : Int))) < 0)) (fun hb7 => ?_) (fun hb7 => ?_)
  · have hb7p := dec_t hb7
    refine CW.cond_t rfl hb7 ?_
    refine CW.seq ?_
    refine CW.region ?_
    refine SeqR.d1 rfl rfl rfl (yl_assign rfl rfl ?_)
    refine SeqR.done ?_
    refine tn ?_
    refine CW.ret ?_
    refine tr ?_
    refine rr rfl (.cons rfl .nil) ?_
    have hM8 : (l_szIdx p_a p_left) = (-1) := by simp only [l_szIdx, hb7, cond_true, cond_false, loopE_done, loopE_ret]
    rw [hM8]
    have q9 := Ex.trans (Ex.refl w) hE6
    exact ⟨rfl, q9⟩
  · have hb7p := dec_f hb7
    refine CW.cond_f rfl hb7 ?_
    refine CW.skip ?_
    refine tn ?_
    refine CW.seq ?_
    refine CW.region ?_
    refine SeqR.d1 rfl rfl rfl (yl_move rfl rfl ?_)
    refine SeqR.d1 rfl rfl rfl (yl_assign rfl rfl ?_)
    refine SeqR.done ?_
    refine tn ?_
    refine CW.ret ?_
    refine rr rfl (.cons rfl .nil) ?_
    have hM10 : (l_szIdx p_a p_left) = (IntKind.wrap .i64 (p_left - (p_a.Name.length : Int))) := by simp only [l_szIdx, hb7, cond_true, cond_false, loopE_done, loopE_ret]
    rw [hM10]
    have q11 := Ex.trans (Ex.refl w) hE6
    exact ⟨rfl, q11⟩
set_option maxRecDepth 100000 in
set_option maxHeartbeats 2000000 in
theorem c_l_szIdxS {A1 : Option Addr} {c1 : Nat} {w : World} (p_a : List DIdx) (p_left : Int) (h1 : RdS w (Iv 0 w.heap.size) (RF e_Idx) 3 A1 p_a.length c1 p_a) : Cal Try.prog 90 #[.slice A1 p_a.length c1, .int .i64 (p_left)] w fun v w' => v = .int .i64 ((l_szIdxS p_a p_left)) ∧ Ex w w' := by
  refine Cal.of (vs := [.slice A1 p_a.length c1, .int .i64 (p_left)]) Try.func90 rfl Try.ntmps90 rfl ?_
  refine CW.seq ?_
  refine CW.region ?_
  refine SeqR.d1 rfl rfl rfl (yl_assign rfl rfl ?_)
  refine SeqR.done ?_
  refine tn ?_
  refine CW.seq ?_
  refine CW.region ?_
  refine SeqR.d1 rfl rfl rfl (yl_move rfl rfl ?_)
  refine SeqR.d1 rfl rfl rfl (yl_move rfl rfl ?_)
  refine SeqR.d1 rfl rfl rfl (yl_len Try.un74 rfl rfl ?_)
  refine SeqR.d1 rfl rfl rfl (yl_sub rfl rfl rfl ?_)
  refine SeqR.d1 rfl rfl rfl (yl_assign rfl rfl ?_)
  refine SeqR.done ?_
  refine tn ?_
  refine CW.seq ?_
  refine CW.seq ?_
  refine CW.region ?_
  refine SeqR.d1 rfl rfl rfl (yl_move rfl rfl ?_)
  refine SeqR.d1 rfl rfl rfl (yl_lss rfl rfl rfl ?_)
  refine SeqR.done ?_
  refine tn ?_
  refine bcase (decide ((IntKind.wrap .i64 (p_left - (p_a.length : Int))) < 0)) (fun hb2 => ?_) (fun hb2 => ?_)
  · have hb2p := dec_t hb2
    refine CW.cond_t rfl hb2 ?_
    refine CW.seq ?_
    refine CW.region ?_
    refine SeqR.d1 rfl rfl rfl (yl_assign rfl rfl ?_)
    refine SeqR.done ?_
    refine tn ?_
    refine CW.ret ?_
    refine tr ?_
    refine rr rfl (.cons rfl .nil) ?_
    have hM3 : (l_szIdxS p_a p_left) = (-1) := by simp only [l_szIdxS, hb2, cond_true, cond_false, loopE_done, loopE_ret]
    rw [hM3]
    exact ⟨rfl, (Ex.refl w)⟩
  · have hb2p := dec_f hb2
    refine CW.cond_f rfl hb2 ?_
    refine CW.skip ?_
    refine tn ?_
    refine CW.seq ?_
    refine CW.seq ?_
    refine CW.region ?_
    refine SeqR.d1 rfl rfl rfl (yl_assign rfl rfl ?_)
    refine SeqR.done ?_
    refine tn ?_
    refine CW.block ?_
    refine CW.loop (fun m6 L7 w8 => ∃ (k4 : Nat) (x5 : Int), m6 = p_a.length - k4 ∧ k4 ≤ p_a.length ∧ lkp L7 0 = some (.slice A1 p_a.length c1) ∧ lkp L7 1 = some (.int .i64 (x5)) ∧ lkp L7 5 = some (.int .i64 ((k4 : Int))) ∧ RdS w8 (Iv 0 w.heap.size) (RF e_Idx) 3 A1 p_a.length c1 p_a ∧ Ex w w8 ∧ loopM (B_l_szIdxS_0 p_a p_left) (p_a.length - k4) k4 (x5) = loopM (B_l_szIdxS_0 p_a p_left) (p_a.length - 0) 0 (IntKind.wrap .i64 (p_left - (p_a.length : Int)))) (p_a.length - 0) ?_ ?_
    · exact ⟨0, IntKind.wrap .i64 (p_left - (p_a.length : Int)), rfl, Nat.zero_le _, rfl, rfl, rfl, h1, (Ex.refl w), rfl⟩
    · rintro m9 L10 w11 ⟨k4, x5, rfl, hk12, hl14, hl15, hl16, hf17, hf18, hI13⟩
      refine CW.sub (Sub.cons hl14 (Sub.cons hl15 (Sub.cons hl16 (Sub.nil _)))) ?_
      have hf18z := Ex.size hf18
      have hbg19 := RdS.big hf17
      rcases Nat.lt_or_ge k4 p_a.length with hlt20 | hlt20
      · skip
        refine CW.seq ?_
        refine CW.seq ?_
        refine CW.region ?_
        refine SeqR.d1 rfl rfl rfl (yl_move rfl rfl ?_)
        refine SeqR.d1 rfl rfl rfl (yl_move rfl rfl ?_)
        refine SeqR.d1 rfl rfl rfl (yl_len Try.un74 rfl rfl ?_)
        refine SeqR.d1 rfl rfl rfl (yl_lss rfl rfl rfl ?_)
        refine SeqR.done ?_
        refine tn ?_
        refine CW.cond_t rfl (lt_t hlt20) ?_
        refine CW.skip ?_
        refine tn ?_
        refine CW.seq ?_
        refine CW.block ?_
        refine CW.seq ?_
        refine CW.region ?_
        refine SeqR.d1 rfl rfl rfl (yl_move rfl rfl ?_)
        refine SeqR.d1 rfl rfl rfl (yl_move rfl rfl ?_)
        obtain ⟨eb21, eo21, ec21, eA21, eS21, ebl21, el21, eR21, eC21⟩ := RdS.atD hf17 d_Idx (i := k4) (by first | omega | assumption)
        obtain rfl := eR21
        have eC21 : Cells w11 eb21 (eo21 + k4 * 3) [.string (bs ((p_a.getD k4 d_Idx).Name)), .int .i64 ((p_a.getD k4 d_Idx).Col), .int .i64 ((p_a.getD k4 d_Idx).Stage)] := eC21
        refine SeqR.d1 rfl rfl rfl (yl_indexAddrN Try.un74 Try.ty146 rfl rfl rfl eA21 (by first | omega | assumption | (simp only [IntKind.wrap_i64] at *; omega)) ?_)
        refine SeqR.d1 rfl rfl rfl (yl_loadN (cs := [.string (bs ((p_a.getD k4 d_Idx).Name)), .int .i64 ((p_a.getD k4 d_Idx).Col), .int .i64 ((p_a.getD k4 d_Idx).Stage)]) Try.ty146 rfl rfl eC21 rfl ?_)
        refine SeqR.d1 rfl rfl rfl (yl_move rfl rfl ?_)
        refine SeqR.d1 rfl rfl rfl (yl_call Try.en115 rfl (opvs_cons rfl (opvs_cons rfl opvs_nil)) (Cal.mono (c_l_szIdx (p_a.getD k4 d_Idx) x5) ?_))
        rintro v23 w22 ⟨rfl, hE24⟩
        have hE24z := Ex.size hE24
        refine SeqR.d1 rfl rfl rfl (yl_assign rfl rfl ?_)
        refine SeqR.done ?_
        refine tn ?_
        refine CW.seq ?_
        refine CW.region ?_
        refine SeqR.d1 rfl rfl rfl (yl_move rfl rfl ?_)
        refine SeqR.d1 rfl rfl rfl (yl_lss rfl rfl rfl ?_)
        refine SeqR.done ?_
        refine tn ?_
        refine bcase (decide ((l_szIdx (p_a.getD k4 d_Idx) x5) < 0)) (fun hb25 => ?_) (fun hb25 => ?_)
        · have hb25p := dec_t hb25
          refine CW.cond_t rfl hb25 ?_
          refine CW.seq ?_
          refine CW.region ?_
          refine SeqR.d1 rfl rfl rfl (yl_assign rfl rfl ?_)
          refine SeqR.done ?_
          refine tn ?_
          refine CW.ret ?_
          refine br ?_
          refine tr ?_
          refine tr ?_
          have hB27 : B_l_szIdxS_0 p_a p_left k4 (x5) = .ret (-1) := by simp only [B_l_szIdxS_0, hb2, hb25, cond_true, cond_false, loopE_done, loopE_ret]
          have hL26 : loopM (B_l_szIdxS_0 p_a p_left) (p_a.length - 0) 0 (IntKind.wrap .i64 (p_left - (p_a.length : Int))) = .ret (-1) := hI13.symm.trans (loopM.ret hlt20 hB27)
          refine br ?_
          refine tr ?_
          refine rr rfl (.cons rfl .nil) ?_
          have hM28 : (l_szIdxS p_a p_left) = (-1) := by simp only [l_szIdxS, hb2, hb25, hL26, cond_true, cond_false, loopE_done, loopE_ret]
          rw [hM28]
          have q29 := Ex.trans hf18 hE24
          exact ⟨rfl, q29⟩
        · have hb25p := dec_f hb25
          refine CW.cond_f rfl hb25 ?_
          refine CW.skip ?_
          refine bn ?_
          refine tn ?_
          refine CW.region ?_
          refine SeqR.d1 rfl rfl rfl (yl_move rfl rfl ?_)
          refine SeqR.d1 rfl rfl rfl (yl_inc rfl rfl rfl (by omega) ?_)
          refine SeqR.d1 rfl rfl rfl (yl_assign rfl rfl ?_)
          refine SeqR.done ?_
          refine tn ?_
          have hB30 : B_l_szIdxS_0 p_a p_left k4 (x5) = .cont ((l_szIdx (p_a.getD k4 d_Idx) x5)) := by simp only [B_l_szIdxS_0, hb2, hb25, cond_true, cond_false, loopE_done, loopE_ret]
          have q31 := RdS.ex good_Idx hf17 hE24
          have q32 := Ex.trans hf18 hE24
          exact ⟨p_a.length - (k4 + 1), by omega, k4 + 1, (l_szIdx (p_a.getD k4 d_Idx) x5), rfl, hlt20, rfl, rfl, rfl, q31, q32, (loopM.cont hlt20 hB30).symm.trans hI13⟩
      · skip
        refine CW.seq ?_
        refine CW.seq ?_
        refine CW.region ?_
        refine SeqR.d1 rfl rfl rfl (yl_move rfl rfl ?_)
        refine SeqR.d1 rfl rfl rfl (yl_move rfl rfl ?_)
        refine SeqR.d1 rfl rfl rfl (yl_len Try.un74 rfl rfl ?_)
        refine SeqR.d1 rfl rfl rfl (yl_lss rfl rfl rfl ?_)
        refine SeqR.done ?_
        refine tn ?_
        refine CW.cond_f rfl (lt_f hlt20) ?_
        refine CW.exit ?_
        refine tx ?_
        refine tx ?_
        have hL33 : loopM (B_l_szIdxS_0 p_a p_left) (p_a.length - 0) 0 (IntKind.wrap .i64 (p_left - (p_a.length : Int))) = .done (x5) := hI13.symm.trans (loopM.stop hlt20)
        refine bx ?_
        refine tn ?_
        refine CW.seq ?_
        refine CW.region ?_
        refine SeqR.d1 rfl rfl rfl (yl_move rfl rfl ?_)
        refine SeqR.d1 rfl rfl rfl (yl_assign rfl rfl ?_)
        refine SeqR.done ?_
        refine tn ?_
        refine CW.ret ?_
        refine rr rfl (.cons rfl .nil) ?_
        have hM34 : (l_szIdxS p_a p_left) = (x5) := by simp only [l_szIdxS, hb2, hL33, cond_true, cond_false, loopE_done, loopE_ret]
        rw [hM34]
        exact ⟨rfl, hf18⟩
set_option maxRecDepth 100000 in
set_option maxHeartbeats 2000000 in
theorem c_l_szTable {A1 : Option Addr} {c1 : Nat} {A2 : Option Addr} {c2 : Nat} {w : World} (p_a : DTable) (p_left : Int) (h1 : RdS w (Iv 0 w.heap.size) (RF e_Str) 1 A1 p_a.Cols.length c1 p_a.Cols) (h2 : RdS w (Iv 0 w.heap.size) (RF e_Idx) 3 A2 p_a.Idxs.length c2 p_a.Idxs) : Cal Try.prog 42 #[.agg #[.string (bs (p_a.Name)), .slice A1 p_a.Cols.length c1, .slice A2 p_a.Idxs.length c2], .int .i64 (p_left)] w fun v w' => v = .int .i64 ((l_szTable p_a p_left)) ∧ Ex w w' := by
  refine Cal.of (vs := [.agg #[.string (bs (p_a.Name)), .slice A1 p_a.Cols.length c1, .slice A2 p_a.Idxs.length c2], .int .i64 (p_left)]) Try.func42 rfl Try.ntmps42 rfl ?_
  refine CW.seq ?_
  refine CW.region ?_
  refine SeqR.d1 rfl rfl rfl (yl_box (cs := [.string (bs (p_a.Name)), .slice A1 p_a.Cols.length c1, .slice A2 p_a.Idxs.length c2]) rfl rfl rfl ?_)
  intro b3 w4 hs5 hz6 hB7 hE8
  refine SeqR.d1 rfl rfl rfl (yl_assign rfl rfl ?_)
  refine SeqR.done ?_
  refine tn ?_
  refine CW.seq ?_
  refine CW.region ?_
  refine SeqR.d1 rfl rfl rfl (yl_move rfl rfl ?_)
  refine SeqR.d1 rfl rfl rfl (yl_fieldAddr Try.fd76_0 rfl rfl ?_)
  refine SeqR.d1 rfl rfl rfl (yl_load1 Try.ty9 rfl rfl ((hB7.cell 0).trans rfl) ?_)
  refine SeqR.d1 rfl rfl rfl (yl_slen Try.un9 (a := p_a.Name) rfl rfl ?_)
  refine SeqR.d1 rfl rfl rfl (yl_sub rfl rfl rfl ?_)
  refine SeqR.d1 rfl rfl rfl (yl_assign rfl rfl ?_)
  refine SeqR.done ?_
  refine tn ?_
  refine CW.seq ?_
  refine CW.seq ?_
  refine CW.region ?_
  refine SeqR.d1 rfl rfl rfl (yl_move rfl rfl ?_)
  refine SeqR.d1 rfl rfl rfl (yl_lss rfl rfl rfl ?_)
  refine SeqR.done ?_
  refine tn ?_
  refine bcase (decide ((IntKind.wrap .i64 (p_left - (p_a.Name.length : Int))) < 0)) (fun hb9 => ?_) (fun hb9 => ?_)
  · have hb9p := dec_t hb9
    refine CW.cond_t rfl hb9 ?_
    refine CW.seq ?_
    refine CW.region ?_
    refine SeqR.d1 rfl rfl rfl (yl_assign rfl rfl ?_)
    refine SeqR.done ?_
    refine tn ?_
    refine CW.ret ?_
    refine tr ?_
    refine rr rfl (.cons rfl .nil) ?_
    have hM10 : (l_szTable p_a p_left) = (-1) := by simp only [l_szTable, hb9, cond_true, cond_false, loopE_done, loopE_ret]
    rw [hM10]
    have q11 := Ex.trans (Ex.refl w) hE8
    exact ⟨rfl, q11⟩
  · have hb9p := dec_f hb9
    refine CW.cond_f rfl hb9 ?_
    refine CW.skip ?_
    refine tn ?_
    refine CW.seq ?_
    refine CW.region ?_
    refine SeqR.d1 rfl rfl rfl (yl_fieldAddr Try.fd76_1 rfl rfl ?_)
    refine SeqR.d1 rfl rfl rfl (yl_load1 Try.ty73 rfl rfl ((hB7.cell 1).trans rfl) ?_)
    refine SeqR.d1 rfl rfl rfl (yl_move rfl rfl ?_)
    have q12 := RdS.ex good_Str h1 hE8
    refine SeqR.d1 rfl rfl rfl (yl_call Try.en89 rfl (opvs_cons rfl (opvs_cons rfl opvs_nil)) (Cal.mono (c_l_szStringS p_a.Cols (IntKind.wrap .i64 (p_left - (p_a.Name.length : Int))) (RdS.up q12 good_Str)) ?_))
    rintro v14 w13 ⟨rfl, hE15⟩
    have hE15z := Ex.size hE15
    refine SeqR.d1 rfl rfl rfl (yl_assign rfl rfl ?_)
    refine SeqR.done ?_
    refine tn ?_
    refine CW.seq ?_
    refine CW.seq ?_
    refine CW.region ?_
    refine SeqR.d1 rfl rfl rfl (yl_move rfl rfl ?_)
    refine SeqR.d1 rfl rfl rfl (yl_lss rfl rfl rfl ?_)
    refine SeqR.done ?_
    refine tn ?_
    refine bcase (decide ((l_szStringS p_a.Cols (IntKind.wrap .i64 (p_left - (p_a.Name.length : Int)))) < 0)) (fun hb16 => ?_) (fun hb16 => ?_)
    · have hb16p := dec_t hb16
      refine CW.cond_t rfl hb16 ?_
      refine CW.seq ?_
      refine CW.region ?_
      refine SeqR.d1 rfl rfl rfl (yl_assign rfl rfl ?_)
      refine SeqR.done ?_
      refine tn ?_
      refine CW.ret ?_
      refine tr ?_
      refine rr rfl (.cons rfl .nil) ?_
      have hM17 : (l_szTable p_a p_left) = (-1) := by simp only [l_szTable, hb9, hb16, cond_true, cond_false, loopE_done, loopE_ret]
      rw [hM17]
      have q18 := Ex.trans (Ex.refl w) hE8
      have q19 := Ex.trans q18 hE15
      exact ⟨rfl, q19⟩
    · have hb16p := dec_f hb16
      refine CW.cond_f rfl hb16 ?_
      refine CW.skip ?_
      refine tn ?_
      refine CW.seq ?_
      refine CW.region ?_
      refine SeqR.d1 rfl rfl rfl (yl_fieldAddr Try.fd76_2 rfl rfl ?_)
      have q20 := Box.ex hB7 hE15
      refine SeqR.d1 rfl rfl rfl (yl_load1 Try.ty74 rfl rfl ((q20.cell 2).trans rfl) ?_)
      refine SeqR.d1 rfl rfl rfl (yl_move rfl rfl ?_)
      have q21 := RdS.ex good_Idx h2 hE8
      have q22 := RdS.ex good_Idx q21 hE15
      refine SeqR.d1 rfl rfl rfl (yl_call Try.en90 rfl (opvs_cons rfl (opvs_cons rfl opvs_nil)) (Cal.mono (c_l_szIdxS p_a.Idxs (l_szStringS p_a.Cols (IntKind.wrap .i64 (p_left - (p_a.Name.length : Int)))) (RdS.up q22 good_Idx)) ?_))
      rintro v24 w23 ⟨rfl, hE25⟩
      have hE25z := Ex.size hE25
      refine SeqR.d1 rfl rfl rfl (yl_assign rfl rfl ?_)
      refine SeqR.done ?_
      refine tn ?_
      refine CW.seq ?_
      refine CW.seq ?_
      refine CW.region ?_
      refine SeqR.d1 rfl rfl rfl (yl_move rfl rfl ?_)
      refine SeqR.d1 rfl rfl rfl (yl_lss rfl rfl rfl ?_)
      refine SeqR.done ?_
      refine tn ?_
      refine bcase (decide ((l_szIdxS p_a.Idxs (l_szStringS p_a.Cols (IntKind.wrap .i64 (p_left - (p_a.Name.length : Int))))) < 0)) (fun hb26 => ?_) (fun hb26 => ?_)
      · have hb26p := dec_t hb26
        refine CW.cond_t rfl hb26 ?_
        refine CW.seq ?_
        refine CW.region ?_
        refine SeqR.d1 rfl rfl rfl (yl_assign rfl rfl ?_)
        refine SeqR.done ?_
        refine tn ?_
        refine CW.ret ?_
        refine tr ?_
        refine rr rfl (.cons rfl .nil) ?_
        have hM27 : (l_szTable p_a p_left) = (-1) := by simp only [l_szTable, hb9, hb16, hb26, cond_true, cond_false, loopE_done, loopE_ret]
        rw [hM27]
        have q28 := Ex.trans (Ex.refl w) hE8
        have q29 := Ex.trans q28 hE15
        have q30 := Ex.trans q29 hE25
        exact ⟨rfl, q30⟩
      · have hb26p := dec_f hb26
        refine CW.cond_f rfl hb26 ?_
        refine CW.skip ?_
        refine tn ?_
        refine CW.seq ?_
        refine CW.region ?_
        refine SeqR.d1 rfl rfl rfl (yl_move rfl rfl ?_)
        refine SeqR.d1 rfl rfl rfl (yl_assign rfl rfl ?_)
        refine SeqR.done ?_
        refine tn ?_
        refine CW.ret ?_
        refine rr rfl (.cons rfl .nil) ?_
        have hM31 : (l_szTable p_a p_left) = ((l_szIdxS p_a.Idxs (l_szStringS p_a.Cols (IntKind.wrap .i64 (p_left - (p_a.Name.length : Int)))))) := by simp only [l_szTable, hb9, hb16, hb26, cond_true, cond_false, loopE_done, loopE_ret]
        rw [hM31]
        have q32 := Ex.trans (Ex.refl w) hE8
        have q33 := Ex.trans q32 hE15
        have q34 := Ex.trans q33 hE25
        exact ⟨rfl, q34⟩
set_option maxRecDepth 100000 in
set_option maxHeartbeats 2000000 in
theorem c_l_szRow {A1 : Option Addr} {c1 : Nat} {w : World} (p_a : DRow) (p_left : Int) (h1 : RdS w (Iv 0 w.heap.size) (RF e_Str) 1 A1 p_a.Vals.length c1 p_a.Vals) : Cal Try.prog 43 #[.agg #[.slice A1 p_a.Vals.length c1], .int .i64 (p_left)] w fun v w' => v = .int .i64 ((l_szRow p_a p_left)) ∧ Ex w w' := by
  refine Cal.of (vs := [.agg #[.slice A1 p_a.Vals.length c1], .int .i64 (p_left)]) Try.func43 rfl Try.ntmps43 rfl ?_
  refine CW.seq ?_
  refine CW.region ?_
  refine SeqR.d1 rfl rfl rfl (yl_box (cs := [.slice A1 p_a.Vals.length c1]) rfl rfl rfl ?_)
  intro b2 w3 hs4 hz5 hB6 hE7
  refine SeqR.d1 rfl rfl rfl (yl_assign rfl rfl ?_)
  refine SeqR.done ?_
  refine tn ?_
  refine CW.seq ?_
  refine CW.region ?_
  refine SeqR.d1 rfl rfl rfl (yl_fieldAddr Try.fd78_0 rfl rfl ?_)
  refine SeqR.d1 rfl rfl rfl (yl_load1 Try.ty73 rfl rfl ((hB6.cell 0).trans rfl) ?_)
  refine SeqR.d1 rfl rfl rfl (yl_move rfl rfl ?_)
  have q8 := RdS.ex good_Str h1 hE7
  refine SeqR.d1 rfl rfl rfl (yl_call Try.en89 rfl (opvs_cons rfl (opvs_cons rfl opvs_nil)) (Cal.mono (c_l_szStringS p_a.Vals p_left (RdS.up q8 good_Str)) ?_))
  rintro v10 w9 ⟨rfl, hE11⟩
  have hE11z := Ex.size hE11
  refine SeqR.d1 rfl rfl rfl (yl_assign rfl rfl ?_)
  refine SeqR.done ?_
  refine tn ?_
  refine CW.seq ?_
  refine CW.seq ?_
  refine CW.region ?_
  refine SeqR.d1 rfl rfl rfl (yl_move rfl rfl ?_)
  refine SeqR.d1 rfl rfl rfl (yl_lss rfl rfl rfl ?_)
  refine SeqR.done ?_
  refine tn ?_
  refine bcase (decide ((l_szStringS p_a.Vals p_left) < 0)) (fun hb12 => ?_) (fun hb12 => ?_)
  · have hb12p := dec_t hb12
    refine CW.cond_t rfl hb12 ?_
    refine CW.seq ?_
    refine CW.region ?_
    refine SeqR.d1 rfl rfl rfl (yl_assign rfl rfl ?_)
    refine SeqR.done ?_
    refine tn ?_
    refine CW.ret ?_
    refine tr ?_
    refine rr rfl (.cons rfl .nil) ?_
    have hM13 : (l_szRow p_a p_left) = (-1) := by simp only [l_szRow, hb12, cond_true, cond_false, loopE_done, loopE_ret]
    rw [hM13]
    have q14 := Ex.trans (Ex.refl w) hE7
    have q15 := Ex.trans q14 hE11
    exact ⟨rfl, q15⟩
  · have hb12p := dec_f hb12
    refine CW.cond_f rfl hb12 ?_
    refine CW.skip ?_
    refine tn ?_
    refine CW.seq ?_
    refine CW.region ?_
    refine SeqR.d1 rfl rfl rfl (yl_move rfl rfl ?_)
    refine SeqR.d1 rfl rfl rfl (yl_assign rfl rfl ?_)
    refine SeqR.done ?_
    refine tn ?_
    refine CW.ret ?_
    refine rr rfl (.cons rfl .nil) ?_
    have hM16 : (l_szRow p_a p_left) = ((l_szStringS p_a.Vals p_left)) := by simp only [l_szRow, hb12, cond_true, cond_false, loopE_done, loopE_ret]
    rw [hM16]
    have q17 := Ex.trans (Ex.refl w) hE7
    have q18 := Ex.trans q17 hE11
    exact ⟨rfl, q18⟩
set_option maxRecDepth 100000 in
set_option maxHeartbeats 2000000 in
theorem c_s_l1In {w : World} (p_n : Int) (p_lo : Int) (p_hi : Int) : Cal Try.prog 50 #[.int .i64 (p_n), .int .i64 (p_lo), .int .i64 (p_hi)] w fun v w' => v = .bool ((s_l1In p_n p_lo p_hi)) ∧ Ex w w' := by
  refine Cal.of (vs := [.int .i64 (p_n), .int .i64 (p_lo), .int .i64 (p_hi)]) Try.func50 rfl Try.ntmps50 rfl ?_
  refine CW.seq ?_
  refine CW.region ?_
  refine SeqR.d1 rfl rfl rfl (yl_assign rfl rfl ?_)
  refine SeqR.done ?_
  refine tn ?_
  refine CW.seq ?_
  refine CW.region ?_
  refine SeqR.d1 rfl rfl rfl (yl_move rfl rfl ?_)
  refine SeqR.d1 rfl rfl rfl (yl_move rfl rfl ?_)
  refine SeqR.d1 rfl rfl rfl (yl_geq rfl rfl rfl ?_)
  refine SeqR.d1 rfl rfl rfl (yl_move rfl rfl ?_)
  refine bcase (decide (p_lo ≤ p_n)) (fun hb1 => ?_) (fun hb1 => ?_)
  · have hb1p := dec_t hb1
    refine SeqR.y rfl rfl rfl rfl rfl hb1 (yl_move rfl rfl ?_)
    refine SeqR.y rfl rfl rfl rfl rfl hb1 (yl_move rfl rfl ?_)
    refine SeqR.y rfl rfl rfl rfl rfl hb1 (yl_leq rfl rfl rfl ?_)
    refine SeqR.d1 rfl rfl rfl (yl_pick_t rfl rfl hb1 rfl ?_)
    refine SeqR.d1 rfl rfl rfl (yl_assign rfl rfl ?_)
    refine SeqR.done ?_
    refine tn ?_
    refine CW.ret ?_
    refine rr rfl (.cons rfl .nil) ?_
    have hM2 : (s_l1In p_n p_lo p_hi) = (decide (p_n ≤ p_hi)) := by simp only [s_l1In, hb1, cond_true, cond_false, loopE_done, loopE_ret]
    rw [hM2]
    exact ⟨rfl, (Ex.refl w)⟩
  · have hb1p := dec_f hb1
    refine SeqR.z rfl rfl rfl rfl rfl hb1 ?_
    refine SeqR.z rfl rfl rfl rfl rfl hb1 ?_
    refine SeqR.z rfl rfl rfl rfl rfl hb1 ?_
    refine SeqR.d1 rfl rfl rfl (yl_pick_f rfl rfl hb1 rfl ?_)
    refine SeqR.d1 rfl rfl rfl (yl_assign rfl rfl ?_)
    refine SeqR.done ?_
    refine tn ?_
    refine CW.ret ?_
    refine rr rfl (.cons rfl .nil) ?_
    have hM3 : (s_l1In p_n p_lo p_hi) = (false) := by simp only [s_l1In, hb1, cond_true, cond_false, loopE_done, loopE_ret]
    rw [hM3]
    exact ⟨rfl, (Ex.refl w)⟩
set_option maxRecDepth 100000 in
set_option maxHeartbeats 2000000 in
theorem c_s_l24Letters {w : World} (p_s : Str) (p_most : Int) (o1 : okS p_s) : Cal Try.prog 116 #[.string (bs (p_s)), .int .i64 (p_most)] w fun v w' => v = .bool ((s_l24Letters p_s p_most)) ∧ Ex w w' := by
  have hol2 : p_s.length ≤ 1073741824 := o1
  refine Cal.of (vs := [.string (bs (p_s)), .int .i64 (p_most)]) Try.func116 rfl Try.ntmps116 rfl ?_
  refine CW.seq ?_
  refine CW.region ?_
  refine SeqR.d1 rfl rfl rfl (yl_assign rfl rfl ?_)
  refine SeqR.done ?_
  refine tn ?_
  refine CW.seq ?_
  refine CW.seq ?_
  refine CW.region ?_
  refine SeqR.d1 rfl rfl rfl (yl_assign rfl rfl ?_)
  refine SeqR.done ?_
  refine tn ?_
  refine CW.block ?_
  refine CW.loop (fun m4 L5 w6 => ∃ (k3 : Nat), m4 = p_s.length - k3 ∧ k3 ≤ p_s.length ∧ lkp L5 0 = some (.string (bs (p_s))) ∧ lkp L5 1 = some (.int .i64 (p_most)) ∧ lkp L5 5 = some (.int .i64 ((k3 : Int))) ∧ Ex w w6 ∧ loopM (B_s_l24Letters_0 p_s p_most) (p_s.length - k3) k3 () = loopM (B_s_l24Letters_0 p_s p_most) (p_s.length - 0) 0 ()) (p_s.length - 0) ?_ ?_
  · exact ⟨0, rfl, Nat.zero_le _, rfl, rfl, rfl, (Ex.refl w), rfl⟩
  · rintro m7 L8 w9 ⟨k3, rfl, hk10, hl12, hl13, hl14, hf15, hI11⟩
    refine CW.sub (Sub.cons hl12 (Sub.cons hl13 (Sub.cons hl14 (Sub.nil _)))) ?_
    have hf15z := Ex.size hf15
    have hbg16 : p_s.length ≤ 1073741824 := o1
    rcases Nat.lt_or_ge k3 p_s.length with hlt17 | hlt17
    · skip
      refine CW.seq ?_
      refine CW.seq ?_
      refine CW.region ?_
      refine SeqR.d1 rfl rfl rfl (yl_move rfl rfl ?_)
      refine SeqR.d1 rfl rfl rfl (yl_move rfl rfl ?_)
      refine SeqR.d1 rfl rfl rfl (yl_slen Try.un9 (a := p_s) rfl rfl ?_)
      refine SeqR.d1 rfl rfl rfl (yl_lss rfl rfl rfl ?_)
      refine SeqR.done ?_
      refine tn ?_
      refine CW.cond_t rfl (lt_t hlt17) ?_
      refine CW.skip ?_
      refine tn ?_
      refine CW.seq ?_
      refine CW.block ?_
      refine CW.seq ?_
      refine CW.region ?_
      refine SeqR.d1 rfl rfl rfl (yl_move rfl rfl ?_)
      refine SeqR.d1 rfl rfl rfl (yl_move rfl rfl ?_)
      refine SeqR.d1 rfl rfl rfl (yl_sindexN Try.un9 (a := p_s) rfl rfl rfl (by first | omega | assumption | (simp only [IntKind.wrap_i64] at *; omega)) ?_)
      refine SeqR.d1 rfl rfl rfl (yl_lss rfl rfl rfl ?_)
      refine SeqR.d1 rfl rfl rfl (yl_move rfl rfl ?_)
      refine bcase (decide (((p_s.getD k3 0).toNat : Int) < 97)) (fun hb18 => ?_) (fun hb18 => ?_)
      · have hb18p := dec_t hb18
        refine SeqR.z rfl rfl rfl rfl rfl hb18 ?_
        refine SeqR.z rfl rfl rfl rfl rfl hb18 ?_
        refine SeqR.z rfl rfl rfl rfl rfl hb18 ?_
        refine SeqR.z rfl rfl rfl rfl rfl hb18 ?_
        refine SeqR.d1 rfl rfl rfl (yl_pick_t rfl rfl hb18 rfl ?_)
        refine SeqR.done ?_
        refine tn ?_
        refine CW.cond_t rfl rfl ?_
        refine CW.seq ?_
        refine CW.region ?_
        refine SeqR.d1 rfl rfl rfl (yl_assign rfl rfl ?_)
        refine SeqR.done ?_
        refine tn ?_
        refine CW.ret ?_
        refine br ?_
        refine tr ?_
        refine tr ?_
        have hB20 : B_s_l24Letters_0 p_s p_most k3 () = .ret false := by simp only [B_s_l24Letters_0, hb18, cond_true, cond_false, loopE_done, loopE_ret]
        have hL19 : loopM (B_s_l24Letters_0 p_s p_most) (p_s.length - 0) 0 () = .ret false := hI11.symm.trans (loopM.ret hlt17 hB20)
        refine br ?_
        refine tr ?_
        refine rr rfl (.cons rfl .nil) ?_
        have hM21 : (s_l24Letters p_s p_most) = (false) := by simp only [s_l24Letters, hb18, hL19, cond_true, cond_false, loopE_done, loopE_ret]
        rw [hM21]
        exact ⟨rfl, hf15⟩
      · have hb18p := dec_f hb18
        refine SeqR.y rfl rfl rfl rfl rfl hb18 (yl_move rfl rfl ?_)
        refine SeqR.y rfl rfl rfl rfl rfl hb18 (yl_move rfl rfl ?_)
        refine SeqR.y rfl rfl rfl rfl rfl hb18 (yl_sindexN Try.un9 (a := p_s) rfl rfl rfl (by first | omega | assumption | (simp only [IntKind.wrap_i64] at *; omega)) ?_)
        refine SeqR.y rfl rfl rfl rfl rfl hb18 (yl_gtr rfl rfl rfl ?_)
        refine SeqR.d1 rfl rfl rfl (yl_pick_f rfl rfl hb18 rfl ?_)
        refine SeqR.done ?_
        refine tn ?_
        refine bcase (decide (122 < ((p_s.getD k3 0).toNat : Int))) (fun hb22 => ?_) (fun hb22 => ?_)
        · have hb22p := dec_t hb22
          refine CW.cond_t rfl hb22 ?_
          refine CW.seq ?_
          refine CW.region ?_
          refine SeqR.d1 rfl rfl rfl (yl_assign rfl rfl ?_)
          refine SeqR.done ?_
          refine tn ?_
          refine CW.ret ?_
          refine br ?_
          refine tr ?_
          refine tr ?_
          have hB24 : B_s_l24Letters_0 p_s p_most k3 () = .ret false := by simp only [B_s_l24Letters_0, hb18, hb22, cond_true, cond_false, loopE_done, loopE_ret]
          have hL23 : loopM (B_s_l24Letters_0 p_s p_most) (p_s.length - 0) 0 () = .ret false := hI11.symm.trans (loopM.ret hlt17 hB24)
          refine br ?_
          refine tr ?_
          refine rr rfl (.cons rfl .nil) ?_
          have hM25 : (s_l24Letters p_s p_most) = (false) := by simp only [s_l24Letters, hb18, hb22, hL23, cond_true, cond_false, loopE_done, loopE_ret]
          rw [hM25]
          exact ⟨rfl, hf15⟩
        · have hb22p := dec_f hb22
          refine CW.cond_f rfl hb22 ?_
          refine CW.skip ?_
          refine bn ?_
          refine tn ?_
          refine CW.region ?_
          refine SeqR.d1 rfl rfl rfl (yl_move rfl rfl ?_)
          refine SeqR.d1 rfl rfl rfl (yl_inc rfl rfl rfl (by omega) ?_)
          refine SeqR.d1 rfl rfl rfl (yl_assign rfl rfl ?_)
          refine SeqR.done ?_
          refine tn ?_
          have hB26 : B_s_l24Letters_0 p_s p_most k3 () = .cont () := by simp only [B_s_l24Letters_0, hb18, hb22, cond_true, cond_false, loopE_done, loopE_ret]
          exact ⟨p_s.length - (k3 + 1), by omega, k3 + 1, rfl, hlt17, rfl, rfl, rfl, hf15, (loopM.cont hlt17 hB26).symm.trans hI11⟩
    · skip
      refine CW.seq ?_
      refine CW.seq ?_
      refine CW.region ?_
      refine SeqR.d1 rfl rfl rfl (yl_move rfl rfl ?_)
      refine SeqR.d1 rfl rfl rfl (yl_move rfl rfl ?_)
      refine SeqR.d1 rfl rfl rfl (yl_slen Try.un9 (a := p_s) rfl rfl ?_)
      refine SeqR.d1 rfl rfl rfl (yl_lss rfl rfl rfl ?_)
      refine SeqR.done ?_
      refine tn ?_
      refine CW.cond_f rfl (lt_f hlt17) ?_
      refine CW.exit ?_
      refine tx ?_
      refine tx ?_
      have hL27 : loopM (B_s_l24Letters_0 p_s p_most) (p_s.length - 0) 0 () = .done () := hI11.symm.trans (loopM.stop hlt17)
      refine bx ?_
      refine tn ?_
      refine CW.seq ?_
      refine CW.region ?_
      refine SeqR.d1 rfl rfl rfl (yl_move rfl rfl ?_)
      refine SeqR.d1 rfl rfl rfl (yl_slen Try.un9 (a := p_s) rfl rfl ?_)
      refine SeqR.d1 rfl rfl rfl (yl_geq rfl rfl rfl ?_)
      refine SeqR.d1 rfl rfl rfl (yl_move rfl rfl ?_)
      refine bcase (decide (1 ≤ (p_s.length : Int))) (fun hb28 => ?_) (fun hb28 => ?_)
      · have hb28p := dec_t hb28
        refine SeqR.y rfl rfl rfl rfl rfl hb28 (yl_move rfl rfl ?_)
        refine SeqR.y rfl rfl rfl rfl rfl hb28 (yl_slen Try.un9 (a := p_s) rfl rfl ?_)
        refine SeqR.y rfl rfl rfl rfl rfl hb28 (yl_move rfl rfl ?_)
        refine SeqR.y rfl rfl rfl rfl rfl hb28 (yl_leq rfl rfl rfl ?_)
        refine SeqR.d1 rfl rfl rfl (yl_pick_t rfl rfl hb28 rfl ?_)
        refine SeqR.d1 rfl rfl rfl (yl_assign rfl rfl ?_)
        refine SeqR.done ?_
        refine tn ?_
        refine CW.ret ?_
        refine rr rfl (.cons rfl .nil) ?_
        have hM29 : (s_l24Letters p_s p_most) = (decide ((p_s.length : Int) ≤ p_most)) := by simp only [s_l24Letters, hb28, hL27, cond_true, cond_false, loopE_done, loopE_ret]
        rw [hM29]
        exact ⟨rfl, hf15⟩
      · have hb28p := dec_f hb28
        refine SeqR.z rfl rfl rfl rfl rfl hb28 ?_
        refine SeqR.z rfl rfl rfl rfl rfl hb28 ?_
        refine SeqR.z rfl rfl rfl rfl rfl hb28 ?_
        refine SeqR.z rfl rfl rfl rfl rfl hb28 ?_
        refine SeqR.d1 rfl rfl rfl (yl_pick_f rfl rfl hb28 rfl ?_)
        refine SeqR.d1 rfl rfl rfl (yl_assign rfl rfl ?_)
        refine SeqR.done ?_
        refine tn ?_
        refine CW.ret ?_
        refine rr rfl (.cons rfl .nil) ?_
        have hM30 : (s_l24Letters p_s p_most) = (false) := by simp only [s_l24Letters, hb28, hL27, cond_true, cond_false, loopE_done, loopE_ret]
        rw [hM30]
        exact ⟨rfl, hf15⟩
set_option maxRecDepth 100000 in
set_option maxHeartbeats 2000000 in
theorem c_s_l24At {A1 : Option Addr} {c1 : Nat} {w : World} (p_l : List Str) (p_s : Str) (h1 : RdS w (Iv 0 w.heap.size) (RF e_Str) 1 A1 p_l.length c1 p_l) (o2 : (okL okS) p_l) (o3 : okS p_s) : Cal Try.prog 134 #[.slice A1 p_l.length c1, .string (bs (p_s))] w fun v w' => v = .int .i64 ((s_l24At p_l p_s)) ∧ Ex w w' := by
  have hol4 := o2.1
  have hol5 : p_s.length ≤ 1073741824 := o3
  refine Cal.of (vs := [.slice A1 p_l.length c1, .string (bs (p_s))]) Try.func134 rfl Try.ntmps134 rfl ?_
  refine CW.seq ?_
  refine CW.region ?_
  refine SeqR.d1 rfl rfl rfl (yl_assign rfl rfl ?_)
  refine SeqR.done ?_
  refine tn ?_
  refine CW.seq ?_
  refine CW.seq ?_
  refine CW.region ?_
  refine SeqR.d1 rfl rfl rfl (yl_move rfl rfl ?_)
  refine SeqR.d1 rfl rfl rfl (yl_len Try.un73 rfl rfl ?_)
  refine SeqR.d1 rfl rfl rfl (yl_move rfl rfl ?_)
  refine SeqR.done ?_
  refine tn ?_
  refine CW.block ?_
  refine CW.loop (fun m7 L8 w9 => ∃ (k6 : Nat), m7 = p_l.length - k6 ∧ k6 ≤ p_l.length ∧ lkp L8 1 = some (.string (bs (p_s))) ∧ lkp L8 7 = some (.slice A1 p_l.length c1) ∧ lkp L8 8 = some (.int .i64 ((p_l.length : Int))) ∧ lkp L8 9 = some (.int .i64 ((k6 : Int))) ∧ RdS w9 (Iv 0 w.heap.size) (RF e_Str) 1 A1 p_l.length c1 p_l ∧ Ex w w9 ∧ loopM (B_s_l24At_0 p_l p_s) (p_l.length - k6) k6 () = loopM (B_s_l24At_0 p_l p_s) (p_l.length - 0) 0 ()) (p_l.length - 0) ?_ ?_
  · exact ⟨0, rfl, Nat.zero_le _, rfl, rfl, rfl, rfl, h1, (Ex.refl w), rfl⟩
  · rintro m10 L11 w12 ⟨k6, rfl, hk13, hl15, hl16, hl17, hl18, hf19, hf20, hI14⟩
    refine CW.sub (Sub.cons hl15 (Sub.cons hl16 (Sub.cons hl17 (Sub.cons hl18 (Sub.nil _))))) ?_
    have hf20z := Ex.size hf20
    have hbg21 := RdS.big hf19
    rcases Nat.lt_or_ge k6 p_l.length with hlt22 | hlt22
    · skip
      refine CW.seq ?_
      refine CW.region ?_
      refine SeqR.d1 rfl rfl rfl (yl_lss rfl rfl rfl ?_)
      refine SeqR.done ?_
      refine tn ?_
      refine CW.seq ?_
      refine CW.cond_t rfl (lt_t hlt22) ?_
      refine CW.skip ?_
      refine tn ?_
      refine CW.seq ?_
      refine CW.block ?_
      refine CW.seq ?_
      refine CW.region ?_
      refine SeqR.d1 rfl rfl rfl (yl_move rfl rfl ?_)
      obtain ⟨eb23, eo23, ec23, eA23, eS23, ebl23, el23, eR23, eC23⟩ := RdS.atD hf19 d_Str (i := k6) (by first | omega | assumption)
      obtain rfl := eR23
      have eC23 : Cells w12 eb23 (eo23 + k6 * 1) [.string (bs ((p_l.getD k6 d_Str)))] := eC23
      refine SeqR.d1 rfl rfl rfl (yl_indexAddrN Try.un73 Try.ty9 rfl rfl rfl eA23 (by first | omega | assumption | (simp only [IntKind.wrap_i64] at *; omega)) ?_)
      refine SeqR.d1 rfl rfl rfl (yl_load1 Try.ty9 rfl rfl (eC23 0 _ rfl) ?_)
      refine SeqR.d1 rfl rfl rfl (yl_assign rfl rfl ?_)
      refine SeqR.d1 rfl rfl rfl (yl_assign rfl rfl ?_)
      refine SeqR.done ?_
      refine tn ?_
      refine CW.seq ?_
      refine CW.region ?_
      refine SeqR.d1 rfl rfl rfl (yl_move rfl rfl ?_)
      refine SeqR.d1 rfl rfl rfl (yl_move rfl rfl ?_)
      refine SeqR.d1 rfl rfl rfl (yl_seql (a := (p_l.getD k6 d_Str)) (b := p_s) rfl rfl rfl ?_)
      refine SeqR.done ?_
      refine tn ?_
      refine bcase ((p_l.getD k6 d_Str) == p_s) (fun hb24 => ?_) (fun hb24 => ?_)
      · skip
        refine CW.cond_t rfl hb24 ?_
        refine CW.seq ?_
        refine CW.region ?_
        refine SeqR.d1 rfl rfl rfl (yl_move rfl rfl ?_)
        refine SeqR.d1 rfl rfl rfl (yl_assign rfl rfl ?_)
        refine SeqR.done ?_
        refine tn ?_
        refine CW.ret ?_
        refine br ?_
        refine tr ?_
        refine tr ?_
        have hB26 : B_s_l24At_0 p_l p_s k6 () = .ret (k6 : Int) := by simp only [B_s_l24At_0, hb24, cond_true, cond_false, loopE_done, loopE_ret]
        have hL25 : loopM (B_s_l24At_0 p_l p_s) (p_l.length - 0) 0 () = .ret (k6 : Int) := hI14.symm.trans (loopM.ret hlt22 hB26)
        refine br ?_
        refine tr ?_
        refine rr rfl (.cons rfl .nil) ?_
        have hM27 : (s_l24At p_l p_s) = ((k6 : Int)) := by simp only [s_l24At, hb24, hL25, cond_true, cond_false, loopE_done, loopE_ret]
        rw [hM27]
        exact ⟨rfl, hf20⟩
      · skip
        refine CW.cond_f rfl hb24 ?_
        refine CW.skip ?_
        refine bn ?_
        refine tn ?_
        refine CW.region ?_
        refine SeqR.d1 rfl rfl rfl (yl_inc rfl rfl rfl (by omega) ?_)
        refine SeqR.d1 rfl rfl rfl (yl_move rfl rfl ?_)
        refine SeqR.done ?_
        refine tn ?_
        have hB28 : B_s_l24At_0 p_l p_s k6 () = .cont () := by simp only [B_s_l24At_0, hb24, cond_true, cond_false, loopE_done, loopE_ret]
        exact ⟨p_l.length - (k6 + 1), by omega, k6 + 1, rfl, hlt22, rfl, rfl, rfl, rfl, hf19, hf20, (loopM.cont hlt22 hB28).symm.trans hI14⟩
    · skip
      refine CW.seq ?_
      refine CW.region ?_
      refine SeqR.d1 rfl rfl rfl (yl_lss rfl rfl rfl ?_)
      refine SeqR.done ?_
      refine tn ?_
      refine CW.seq ?_
      refine CW.cond_f rfl (lt_f hlt22) ?_
      refine CW.exit ?_
      refine tx ?_
      refine tx ?_
      have hL29 : loopM (B_s_l24At_0 p_l p_s) (p_l.length - 0) 0 () = .done () := hI14.symm.trans (loopM.stop hlt22)
      refine bx ?_
      refine tn ?_
      refine CW.seq ?_
      refine CW.region ?_
      refine SeqR.d1 rfl rfl rfl (yl_assign rfl rfl ?_)
      refine SeqR.done ?_
      refine tn ?_
      refine CW.ret ?_
      refine rr rfl (.cons rfl .nil) ?_
      have hM30 : (s_l24At p_l p_s) = (-1) := by simp only [s_l24At, hL29, cond_true, cond_false, loopE_done, loopE_ret]
      rw [hM30]
      exact ⟨rfl, hf20⟩
set_option maxRecDepth 100000 in
set_option maxHeartbeats 2000000 in
theorem c_s_l24Cols {A1 : Option Addr} {c1 : Nat} {w : World} (p_l : List Str) (h1 : RdS w (Iv 0 w.heap.size) (RF e_Str) 1 A1 p_l.length c1 p_l) (o2 : (okL okS) p_l) : Cal Try.prog 117 #[.slice A1 p_l.length c1] w fun v w' => v = .bool ((s_l24Cols p_l)) ∧ Ex w w' := by
  have hol3 := o2.1
  refine Cal.of (vs := [.slice A1 p_l.length c1]) Try.func117 rfl Try.ntmps117 rfl ?_
  refine CW.seq ?_
  refine CW.region ?_
  refine SeqR.d1 rfl rfl rfl (yl_assign rfl rfl ?_)
  refine SeqR.done ?_
  refine tn ?_
  refine CW.seq ?_
  refine CW.seq ?_
  refine CW.region ?_
  refine SeqR.d1 rfl rfl rfl (yl_move rfl rfl ?_)
  refine SeqR.d1 rfl rfl rfl (yl_len Try.un73 rfl rfl ?_)
  refine SeqR.d1 rfl rfl rfl (yl_move rfl rfl ?_)
  refine SeqR.done ?_
  refine tn ?_
  refine CW.block ?_
  refine CW.loop (fun m5 L6 w7 => ∃ (k4 : Nat), m5 = p_l.length - k4 ∧ k4 ≤ p_l.length ∧ lkp L6 0 = some (.slice A1 p_l.length c1) ∧ lkp L6 5 = some (.slice A1 p_l.length c1) ∧ lkp L6 6 = some (.int .i64 ((p_l.length : Int))) ∧ lkp L6 7 = some (.int .i64 ((k4 : Int))) ∧ RdS w7 (Iv 0 w.heap.size) (RF e_Str) 1 A1 p_l.length c1 p_l ∧ Ex w w7 ∧ loopM (B_s_l24Cols_0 p_l) (p_l.length - k4) k4 () = loopM (B_s_l24Cols_0 p_l) (p_l.length - 0) 0 ()) (p_l.length - 0) ?_ ?_
  · exact ⟨0, rfl, Nat.zero_le _, rfl, rfl, rfl, rfl, h1, (Ex.refl w), rfl⟩
  · rintro m8 L9 w10 ⟨k4, rfl, hk11, hl13, hl14, hl15, hl16, hf17, hf18, hI12⟩
    refine CW.sub (Sub.cons hl13 (Sub.cons hl14 (Sub.cons hl15 (Sub.cons hl16 (Sub.nil _))))) ?_
    have hf18z := Ex.size hf18
    have hbg19 := RdS.big hf17
    rcases Nat.lt_or_ge k4 p_l.length with hlt20 | hlt20
    · skip
      refine CW.seq ?_
      refine CW.region ?_
      refine SeqR.d1 rfl rfl rfl (yl_lss rfl rfl rfl ?_)
      refine SeqR.done ?_
      refine tn ?_
      refine CW.seq ?_
      refine CW.cond_t rfl (lt_t hlt20) ?_
      refine CW.skip ?_
      refine tn ?_
      refine CW.seq ?_
      refine CW.block ?_
      refine CW.seq ?_
      refine CW.region ?_
      refine SeqR.d1 rfl rfl rfl (yl_move rfl rfl ?_)
      obtain ⟨eb21, eo21, ec21, eA21, eS21, ebl21, el21, eR21, eC21⟩ := RdS.atD hf17 d_Str (i := k4) (by first | omega | assumption)
      obtain rfl := eR21
      have eC21 : Cells w10 eb21 (eo21 + k4 * 1) [.string (bs ((p_l.getD k4 d_Str)))] := eC21
      refine SeqR.d1 rfl rfl rfl (yl_indexAddrN Try.un73 Try.ty9 rfl rfl rfl eA21 (by first | omega | assumption | (simp only [IntKind.wrap_i64] at *; omega)) ?_)
      refine SeqR.d1 rfl rfl rfl (yl_load1 Try.ty9 rfl rfl (eC21 0 _ rfl) ?_)
      refine SeqR.d1 rfl rfl rfl (yl_assign rfl rfl ?_)
      refine SeqR.d1 rfl rfl rfl (yl_assign rfl rfl ?_)
      refine SeqR.done ?_
      refine tn ?_
      refine CW.seq ?_
      refine CW.region ?_
      refine SeqR.d1 rfl rfl rfl (yl_move rfl rfl ?_)
      refine SeqR.d1 rfl rfl rfl (yl_call Try.en116 rfl (opvs_cons rfl (opvs_cons rfl opvs_nil)) (Cal.mono (c_s_l24Letters (p_l.getD k4 d_Str) 3 (okL.getD o2 ok_d_Str _)) ?_))
      rintro v23 w22 ⟨rfl, hE24⟩
      have hE24z := Ex.size hE24
      refine SeqR.d1 rfl rfl rfl (yl_not rfl rfl ?_)
      refine SeqR.d1 rfl rfl rfl (yl_move rfl rfl ?_)
      refine bcase (s_l24Letters (p_l.getD k4 d_Str) 3) (fun hb25 => ?_) (fun hb25 => ?_)
      · skip
        refine SeqR.y rfl rfl rfl rfl rfl (not_t hb25) (yl_move rfl rfl ?_)
        refine SeqR.y rfl rfl rfl rfl rfl (not_t hb25) (yl_move rfl rfl ?_)
        have q26 := RdS.ex good_Str hf17 hE24
        obtain ⟨A27, c28, he31, h30⟩ := RdS.sl (RdS.drop (RdS.take q26 (k := k4) (by omega)) (k := 0) (by omega))
        have hrc32 := (q26).2.1
        refine SeqR.y rfl rfl rfl rfl rfl (not_t hb25) (yl_sliceR (kl := .i64) (l := 0) (h := k4) Try.un73 Try.ty9 rfl rfl (.inl ⟨rfl, rfl⟩) (.inr ⟨_, rfl, rfl⟩) (by omega) (by omega) he31 ?_)
        refine SeqR.y rfl rfl rfl rfl rfl (not_t hb25) (yl_move rfl rfl ?_)
        refine SeqR.y rfl rfl rfl rfl rfl (not_t hb25) (yl_call Try.en134 rfl (opvs_cons rfl (opvs_cons rfl opvs_nil)) (Cal.mono (c_s_l24At (p_l.take k4) (p_l.getD k4 d_Str) (RdS.up h30 good_Str) (okL.take o2 _) (okL.getD o2 ok_d_Str _)) ?_))
        rintro v34 w33 ⟨rfl, hE35⟩
        have hE35z := Ex.size hE35
        refine SeqR.y rfl rfl rfl rfl rfl (not_t hb25) (yl_geq rfl rfl rfl ?_)
        refine SeqR.d1 rfl rfl rfl (yl_pick_f rfl rfl (not_t hb25) rfl ?_)
        refine SeqR.done ?_
        refine tn ?_
        refine bcase (decide (0 ≤ (s_l24At (p_l.take k4) (p_l.getD k4 d_Str)))) (fun hb36 => ?_) (fun hb36 => ?_)
        · have hb36p := dec_t hb36
          refine CW.cond_t rfl hb36 ?_
          refine CW.seq ?_
          refine CW.region ?_
          refine SeqR.d1 rfl rfl rfl (yl_assign rfl rfl ?_)
          refine SeqR.done ?_
          refine tn ?_
          refine CW.ret ?_
          refine br ?_
          refine tr ?_
          refine tr ?_
          have hB38 : B_s_l24Cols_0 p_l k4 () = .ret false := by simp only [B_s_l24Cols_0, hb25, hb36, cond_true, cond_false, loopE_done, loopE_ret]
          have hL37 : loopM (B_s_l24Cols_0 p_l) (p_l.length - 0) 0 () = .ret false := hI12.symm.trans (loopM.ret hlt20 hB38)
          refine br ?_
          refine tr ?_
          refine rr rfl (.cons rfl .nil) ?_
          have hM39 : (s_l24Cols p_l) = (false) := by simp only [s_l24Cols, hb25, hb36, hL37, cond_true, cond_false, loopE_done, loopE_ret]
          rw [hM39]
          have q40 := Ex.trans hf18 hE24
          have q41 := Ex.trans q40 hE35
          exact ⟨rfl, q41⟩
        · have hb36p := dec_f hb36
          refine CW.cond_f rfl hb36 ?_
          refine CW.skip ?_
          refine bn ?_
          refine tn ?_
          refine CW.region ?_
          refine SeqR.d1 rfl rfl rfl (yl_inc rfl rfl rfl (by omega) ?_)
          refine SeqR.d1 rfl rfl rfl (yl_move rfl rfl ?_)
          refine SeqR.done ?_
          refine tn ?_
          have hB42 : B_s_l24Cols_0 p_l k4 () = .cont () := by simp only [B_s_l24Cols_0, hb25, hb36, cond_true, cond_false, loopE_done, loopE_ret]
          have q43 := RdS.ex good_Str q26 hE35
          have q44 := Ex.trans hf18 hE24
          have q45 := Ex.trans q44 hE35
          exact ⟨p_l.length - (k4 + 1), by omega, k4 + 1, rfl, hlt20, rfl, rfl, rfl, rfl, q43, q45, (loopM.cont hlt20 hB42).symm.trans hI12⟩
      · skip
        refine SeqR.z rfl rfl rfl rfl rfl (not_f hb25) ?_
        refine SeqR.z rfl rfl rfl rfl rfl (not_f hb25) ?_
        refine SeqR.z rfl rfl rfl rfl rfl (not_f hb25) ?_
        refine SeqR.z rfl rfl rfl rfl rfl (not_f hb25) ?_
        refine SeqR.z rfl rfl rfl rfl rfl (not_f hb25) ?_
        refine SeqR.z rfl rfl rfl rfl rfl (not_f hb25) ?_
        refine SeqR.d1 rfl rfl rfl (yl_pick_t rfl rfl (not_f hb25) rfl ?_)
        refine SeqR.done ?_
        refine tn ?_
        refine CW.cond_t rfl rfl ?_
        refine CW.seq ?_
        refine CW.region ?_
        refine SeqR.d1 rfl rfl rfl (yl_assign rfl rfl ?_)
        refine SeqR.done ?_
        refine tn ?_
        refine CW.ret ?_
        refine br ?_
        refine tr ?_
        refine tr ?_
        have hB47 : B_s_l24Cols_0 p_l k4 () = .ret false := by simp only [B_s_l24Cols_0, hb25, cond_true, cond_false, loopE_done, loopE_ret]
        have hL46 : loopM (B_s_l24Cols_0 p_l) (p_l.length - 0) 0 () = .ret false := hI12.symm.trans (loopM.ret hlt20 hB47)
        refine br ?_
        refine tr ?_
        refine rr rfl (.cons rfl .nil) ?_
        have hM48 : (s_l24Cols p_l) = (false) := by simp only [s_l24Cols, hb25, hL46, cond_true, cond_false, loopE_done, loopE_ret]
        rw [hM48]
        have q49 := Ex.trans hf18 hE24
        exact ⟨rfl, q49⟩
    · skip
      refine CW.seq ?_
      refine CW.region ?_
      refine SeqR.d1 rfl rfl rfl (yl_lss rfl rfl rfl ?_)
      refine SeqR.done ?_
      refine tn ?_
      refine CW.seq ?_
      refine CW.cond_f rfl (lt_f hlt20) ?_
      refine CW.exit ?_
      refine tx ?_
      refine tx ?_
      have hL50 : loopM (B_s_l24Cols_0 p_l) (p_l.length - 0) 0 () = .done () := hI12.symm.trans (loopM.stop hlt20)
      refine bx ?_
      refine tn ?_
      refine CW.seq ?_
      refine CW.region ?_
      refine SeqR.d1 rfl rfl rfl (yl_move rfl rfl ?_)
      refine SeqR.d1 rfl rfl rfl (yl_len Try.un73 rfl rfl ?_)
      refine SeqR.d1 rfl rfl rfl (yl_call Try.en50 rfl (opvs_cons rfl (opvs_cons rfl (opvs_cons rfl opvs_nil))) (Cal.mono (c_s_l1In (p_l.length : Int) 2 4) ?_))
      rintro v52 w51 ⟨rfl, hE53⟩
      have hE53z := Ex.size hE53
      refine SeqR.d1 rfl rfl rfl (yl_assign rfl rfl ?_)
      refine SeqR.done ?_
      refine tn ?_
      refine CW.ret ?_
      refine rr rfl (.cons rfl .nil) ?_
      have hM54 : (s_l24Cols p_l) = ((s_l1In (p_l.length : Int) 2 4)) := by simp only [s_l24Cols, hL50, cond_true, cond_false, loopE_done, loopE_ret]
      rw [hM54]
      have q55 := Ex.trans hf18 hE53
      exact ⟨rfl, q55⟩
set_option maxRecDepth 100000 in
set_option maxHeartbeats 2000000 in
theorem c_s_GoodTable {A1 : Option Addr} {c1 : Nat} {A2 : Option Addr} {c2 : Nat} {w : World} (p_0 : DTable) (h1 : RdS w (Iv 0 w.heap.size) (RF e_Str) 1 A1 p_0.Cols.length c1 p_0.Cols) (h2 : RdS w (Iv 0 w.heap.size) (RF e_Idx) 3 A2 p_0.Idxs.length c2 p_0.Idxs) (o3 : ok_Table p_0) : Cal Try.prog 91 #[.agg #[.string (bs (p_0.Name)), .slice A1 p_0.Cols.length c1, .slice A2 p_0.Idxs.length c2]] w fun v w' => v = .bool ((s_GoodTable p_0)) ∧ Ex w w' := by
  have hol4 : p_0.Name.length ≤ 1073741824 := o3.1
  have hol5 := o3.2.1.1
  have hol6 := o3.2.2.1
  refine Cal.of (vs := [.agg #[.string (bs (p_0.Name)), .slice A1 p_0.Cols.length c1, .slice A2 p_0.Idxs.length c2]]) Try.func91 rfl Try.ntmps91 rfl ?_
  refine CW.seq ?_
  refine CW.region ?_
  refine SeqR.d1 rfl rfl rfl (yl_box (cs := [.string (bs (p_0.Name)), .slice A1 p_0.Cols.length c1, .slice A2 p_0.Idxs.length c2]) rfl rfl rfl ?_)
  intro b7 w8 hs9 hz10 hB11 hE12
  refine SeqR.d1 rfl rfl rfl (yl_assign rfl rfl ?_)
  refine SeqR.done ?_
  refine tn ?_
  refine CW.seq ?_
  refine CW.seq ?_
  refine CW.region ?_
  refine SeqR.d1 rfl rfl rfl (yl_fieldAddr Try.fd84_0 rfl rfl ?_)
  refine SeqR.d1 rfl rfl rfl (yl_load1 Try.ty9 rfl rfl ((hB11.cell 0).trans rfl) ?_)
  refine SeqR.d1 rfl rfl rfl (yl_call Try.en116 rfl (opvs_cons rfl (opvs_cons rfl opvs_nil)) (Cal.mono (c_s_l24Letters p_0.Name 1 o3.1) ?_))
  rintro v14 w13 ⟨rfl, hE15⟩
  have hE15z := Ex.size hE15
  refine SeqR.d1 rfl rfl rfl (yl_not rfl rfl ?_)
  refine SeqR.d1 rfl rfl rfl (yl_move rfl rfl ?_)
  refine bcase (s_l24Letters p_0.Name 1) (fun hb16 => ?_) (fun hb16 => ?_)
  · skip
    refine SeqR.y rfl rfl rfl rfl rfl (not_t hb16) (yl_fieldAddr Try.fd84_1 rfl rfl ?_)
    have q17 := Box.ex hB11 hE15
    refine SeqR.y rfl rfl rfl rfl rfl (not_t hb16) (yl_load1 Try.ty73 rfl rfl ((q17.cell 1).trans rfl) ?_)
    have q18 := RdS.ex good_Str h1 hE12
    have q19 := RdS.ex good_Str q18 hE15
    refine SeqR.y rfl rfl rfl rfl rfl (not_t hb16) (yl_call Try.en117 rfl (opvs_cons rfl opvs_nil) (Cal.mono (c_s_l24Cols p_0.Cols (RdS.up q19 good_Str) o3.2.1) ?_))
    rintro v21 w20 ⟨rfl, hE22⟩
    have hE22z := Ex.size hE22
    refine SeqR.y rfl rfl rfl rfl rfl (not_t hb16) (yl_not rfl rfl ?_)
    refine SeqR.d1 rfl rfl rfl (yl_pick_f rfl rfl (not_t hb16) rfl ?_)
    refine SeqR.d1 rfl rfl rfl (yl_move rfl rfl ?_)
    refine bcase (s_l24Cols p_0.Cols) (fun hb23 => ?_) (fun hb23 => ?_)
    · skip
      refine SeqR.y rfl rfl rfl rfl rfl (not_t hb23) (yl_fieldAddr Try.fd84_2 rfl rfl ?_)
      have q24 := Box.ex q17 hE22
      refine SeqR.y rfl rfl rfl rfl rfl (not_t hb23) (yl_load1 Try.ty82 rfl rfl ((q24.cell 2).trans rfl) ?_)
      refine SeqR.y rfl rfl rfl rfl rfl (not_t hb23) (yl_len Try.un82 rfl rfl ?_)
      refine SeqR.y rfl rfl rfl rfl rfl (not_t hb23) (yl_gtr rfl rfl rfl ?_)
      refine SeqR.d1 rfl rfl rfl (yl_pick_f rfl rfl (not_t hb23) rfl ?_)
      refine SeqR.done ?_
      refine tn ?_
      refine bcase (decide (3 < (p_0.Idxs.length : Int))) (fun hb25 => ?_) (fun hb25 => ?_)
      · have hb25p := dec_t hb25
        refine CW.cond_t rfl hb25 ?_
        refine CW.seq ?_
        refine CW.region ?_
        refine SeqR.d1 rfl rfl rfl (yl_assign rfl rfl ?_)
        refine SeqR.done ?_
        refine tn ?_
        refine CW.ret ?_
        refine tr ?_
        refine rr rfl (.cons rfl .nil) ?_
        have hM26 : (s_GoodTable p_0) = (false) := by simp only [s_GoodTable, hb16, hb23, hb25, cond_true, cond_false, loopE_done, loopE_ret]
        rw [hM26]
        have q27 := Ex.trans (Ex.refl w) hE12
        have q28 := Ex.trans q27 hE15
        have q29 := Ex.trans q28 hE22
        exact ⟨rfl, q29⟩
      · have hb25p := dec_f hb25
        refine CW.cond_f rfl hb25 ?_
        refine CW.skip ?_
        refine tn ?_
        refine CW.seq ?_
        refine CW.seq ?_
        refine CW.region ?_
        refine SeqR.d1 rfl rfl rfl (yl_fieldAddr Try.fd84_2 rfl rfl ?_)
        refine SeqR.d1 rfl rfl rfl (yl_load1 Try.ty82 rfl rfl ((q24.cell 2).trans rfl) ?_)
        refine SeqR.d1 rfl rfl rfl (yl_len Try.un82 rfl rfl ?_)
        refine SeqR.d1 rfl rfl rfl (yl_move rfl rfl ?_)
        refine SeqR.done ?_
        refine tn ?_
        refine CW.block ?_
        have q71 := RdS.ex good_Str q19 hE22
        have q72 := RdS.ex good_Idx h2 hE12
        have q73 := RdS.ex good_Idx q72 hE15
        have q74 := RdS.ex good_Idx q73 hE22
        have q75 := Ex.trans (Ex.refl w) hE12
        have q76 := Ex.trans q75 hE15
        have q77 := Ex.trans q76 hE22
        refine CW.loop (fun m68 L69 w70 => ∃ (k30 : Nat), m68 = p_0.Idxs.length - k30 ∧ k30 ≤ p_0.Idxs.length ∧ lkp L69 1 = some (.pointer (some ⟨b7, 0, none⟩)) ∧ lkp L69 22 = some (.slice A2 p_0.Idxs.length c2) ∧ lkp L69 23 = some (.int .i64 ((p_0.Idxs.length : Int))) ∧ lkp L69 24 = some (.int .i64 ((k30 : Int))) ∧ Box w70 b7 84 [.string (bs (p_0.Name)), .slice A1 p_0.Cols.length c1, .slice A2 p_0.Idxs.length c2] ∧ RdS w70 (Iv 0 w.heap.size) (RF e_Str) 1 A1 p_0.Cols.length c1 p_0.Cols ∧ RdS w70 (Iv 0 w.heap.size) (RF e_Idx) 3 A2 p_0.Idxs.length c2 p_0.Idxs ∧ Ex w w70 ∧ loopM (B_s_GoodTable_0 p_0) (p_0.Idxs.length - k30) k30 () = loopM (B_s_GoodTable_0 p_0) (p_0.Idxs.length - 0) 0 ()) (p_0.Idxs.length - 0) ?_ ?_
        · exact ⟨0, rfl, Nat.zero_le _, rfl, rfl, rfl, rfl, q24, q71, q74, q77, rfl⟩
        · rintro m78 L79 w80 ⟨k30, rfl, hk81, hl83, hl84, hl85, hl86, hf87, hf88, hf89, hf90, hI82⟩
          refine CW.sub (Sub.cons hl83 (Sub.cons hl84 (Sub.cons hl85 (Sub.cons hl86 (Sub.nil _))))) ?_
          have hf87z := Box.lt hf87
          have hf90z := Ex.size hf90
          have hbg91 := RdS.big hf89
          rcases Nat.lt_or_ge k30 p_0.Idxs.length with hlt92 | hlt92
          · skip
            refine CW.seq ?_
            refine CW.region ?_
            refine SeqR.d1 rfl rfl rfl (yl_lss rfl rfl rfl ?_)
            refine SeqR.done ?_
            refine tn ?_
            refine CW.seq ?_
            refine CW.cond_t rfl (lt_t hlt92) ?_
            refine CW.skip ?_
            refine tn ?_
            refine CW.seq ?_
            refine CW.block ?_
            refine CW.seq ?_
            refine CW.region ?_
            refine SeqR.d1 rfl rfl rfl (yl_move rfl rfl ?_)
            obtain ⟨eb93, eo93, ec93, eA93, eS93, ebl93, el93, eR93, eC93⟩ := RdS.atD hf89 d_Idx (i := k30) (by first | omega | assumption)
            obtain rfl := eR93
            have eC93 : Cells w80 eb93 (eo93 + k30 * 3) [.string (bs ((p_0.Idxs.getD k30 d_Idx).Name)), .int .i64 ((p_0.Idxs.getD k30 d_Idx).Col), .int .i64 ((p_0.Idxs.getD k30 d_Idx).Stage)] := eC93
            refine SeqR.d1 rfl rfl rfl (yl_indexAddrN Try.un82 Try.ty149 rfl rfl rfl eA93 (by first | omega | assumption | (simp only [IntKind.wrap_i64] at *; omega)) ?_)
            refine SeqR.d1 rfl rfl rfl (yl_loadN (cs := [.string (bs ((p_0.Idxs.getD k30 d_Idx).Name)), .int .i64 ((p_0.Idxs.getD k30 d_Idx).Col), .int .i64 ((p_0.Idxs.getD k30 d_Idx).Stage)]) Try.ty149 rfl rfl eC93 rfl ?_)
            refine SeqR.d1 rfl rfl rfl (yl_alloc Try.ty149 (cs := [.string (bs (([] : Str))), .int .i64 (0), .int .i64 (0)]) rfl rfl ?_)
            intro b94 w95 hs96 hz97 hB98 hE99
            refine SeqR.d1 rfl rfl rfl (yl_assign rfl rfl ?_)
            refine SeqR.u rfl rfl (yl_store (vs := [.string (bs ((p_0.Idxs.getD k30 d_Idx).Name)), .int .i64 ((p_0.Idxs.getD k30 d_Idx).Col), .int .i64 ((p_0.Idxs.getD k30 d_Idx).Stage)]) Try.ty149 rfl rfl rfl rfl rfl rfl hB98 (Nat.le_of_ble_eq_true rfl) ?_)
            intro w100 hB101 hO102
            have hB101 : Box w100 b94 149 [.string (bs ((p_0.Idxs.getD k30 d_Idx).Name)), .int .i64 ((p_0.Idxs.getD k30 d_Idx).Col), .int .i64 ((p_0.Idxs.getD k30 d_Idx).Stage)] := hB101
            have hO102z := hO102.size
            refine SeqR.done ?_
            refine tn ?_
            refine CW.seq ?_
            refine bcase (s_l24Letters ((p_0.Idxs.getD k30 d_Idx).Name) 1) (fun hb104 => ?_) (fun hb104 => ?_)
            · skip
              have q106 := Box.ex hf87 hE99
              have q107 := Box.only q106 hO102 (by omega)
              refine bcase (s_l1In ((p_0.Idxs.getD k30 d_Idx).Col) 1 (IntKind.wrap .i64 ((p_0.Cols.length : Int) - 1))) (fun hb109 => ?_) (fun hb109 => ?_)
              · have hb109p := f_l1In hb109
                have q111 := Box.ex hf87 hE99
                have q112 := Box.only q111 hO102 (by omega)
                refine bcase (s_l1In ((p_0.Idxs.getD k30 d_Idx).Stage) 0 3) (fun hb115 => ?_) (fun hb115 => ?_)
                · have hb115p := f_l1In hb115
                  have q117 := Box.ex hf87 hE99
                  have q118 := Box.only q117 hO102 (by omega)
                  refine bcase (decide (0 < (k30 : Int))) (fun hb121 => ?_) (fun hb121 => ?_)
                  · have hb121p := dec_t hb121
                    have q123 := Box.ex hf87 hE99
                    have q124 := Box.only q123 hO102 (by omega)
                    have q127 := RdS.ex good_Idx hf89 hE99
                    have q128 := RdS.only good_Idx q127 hO102 (by simp only [Iv]; omega)
                    obtain ⟨eb129, eo129, ec129, eA129, eS129, ebl129, el129, eR129, eC129⟩ := RdS.atD q128 d_Idx (i := (IntKind.wrap .i64 ((k30 : Int) - 1)).toNat) (by first | omega | assumption | (simp only [IntKind.wrap_i64] at *; omega))
                    obtain rfl := eR129
                    have eC129 : Cells w100 eb129 (eo129 + ((IntKind.wrap .i64 ((k30 : Int) - 1)).toNat) * 3) [.string (bs ((p_0.Idxs.getD ((IntKind.wrap .i64 ((k30 : Int) - 1)).toNat) d_Idx).Name)), .int .i64 ((p_0.Idxs.getD ((IntKind.wrap .i64 ((k30 : Int) - 1)).toNat) d_Idx).Col), .int .i64 ((p_0.Idxs.getD ((IntKind.wrap .i64 ((k30 : Int) - 1)).toNat) d_Idx).Stage)] := eC129
                    refine CW.drawsI 36 (vgetI [DetI (.pointer (some ⟨b94, 0 + 0, none⟩)), DetI (.string (bs ((p_0.Idxs.getD k30 d_Idx).Name))), DetI (.bool ((s_l24Letters ((p_0.Idxs.getD k30 d_Idx).Name) 1))), DetI (.bool (!(s_l24Letters ((p_0.Idxs.getD k30 d_Idx).Name) 1))), DetI (.bool (!(s_l24Letters ((p_0.Idxs.getD k30 d_Idx).Name) 1))), DetI (.pointer (some ⟨b94, 0 + 1, none⟩)), DetI (.int .i64 ((p_0.Idxs.getD k30 d_Idx).Col)), DetI (.pointer (some ⟨b7, 0 + 1, none⟩)), DetI (.slice A1 p_0.Cols.length c1), DetI (.int .i64 ((p_0.Cols.length : Int))), DetI (.int .i64 (IntKind.wrap .i64 ((p_0.Cols.length : Int) - 1))), DetI (.bool ((s_l1In ((p_0.Idxs.getD k30 d_Idx).Col) 1 (IntKind.wrap .i64 ((p_0.Cols.length : Int) - 1))))), DetI (.bool (!(s_l1In ((p_0.Idxs.getD k30 d_Idx).Col) 1 (IntKind.wrap .i64 ((p_0.Cols.length : Int) - 1))))), DetI (.bool (!(s_l1In ((p_0.Idxs.getD k30 d_Idx).Col) 1 (IntKind.wrap .i64 ((p_0.Cols.length : Int) - 1))))), DetI (.bool (!(s_l1In ((p_0.Idxs.getD k30 d_Idx).Col) 1 (IntKind.wrap .i64 ((p_0.Cols.length : Int) - 1))))), DetI (.pointer (some ⟨b94, 0 + 2, none⟩)), DetI (.int .i64 ((p_0.Idxs.getD k30 d_Idx).Stage)), DetI (.bool ((s_l1In ((p_0.Idxs.getD k30 d_Idx).Stage) 0 3))), DetI (.bool (!(s_l1In ((p_0.Idxs.getD k30 d_Idx).Stage) 0 3))), DetI (.bool (!(s_l1In ((p_0.Idxs.getD k30 d_Idx).Stage) 0 3))), DetI (.bool (!(s_l1In ((p_0.Idxs.getD k30 d_Idx).Stage) 0 3))), DetI (.int .i64 ((k30 : Int))), DetI (.bool (decide (0 < (k30 : Int)))), DetI (.bool (decide (0 < (k30 : Int)))), DetI (.pointer (some ⟨b7, 0 + 2, none⟩)), DetI (.slice A2 p_0.Idxs.length c2), DetI (.int .i64 ((k30 : Int))), DetI (.int .i64 (IntKind.wrap .i64 ((k30 : Int) - 1))), DetI (.pointer (some ⟨eb129, eo129 + ((IntKind.wrap .i64 ((k30 : Int) - 1)).toNat) * 3, none⟩)), DetI (.pointer (some ⟨eb129, eo129 + ((IntKind.wrap .i64 ((k30 : Int) - 1)).toNat) * 3 + 0, none⟩)), DetI (.string (bs ((p_0.Idxs.getD ((IntKind.wrap .i64 ((k30 : Int) - 1)).toNat) d_Idx).Name))), DetI (.pointer (some ⟨b94, 0 + 0, none⟩)), DetI (.string (bs ((p_0.Idxs.getD k30 d_Idx).Name))), DetI (.bool (!(sLt ((p_0.Idxs.getD ((IntKind.wrap .i64 ((k30 : Int) - 1)).toNat) d_Idx).Name) ((p_0.Idxs.getD k30 d_Idx).Name)))), DetI (.bool (!(sLt ((p_0.Idxs.getD ((IntKind.wrap .i64 ((k30 : Int) - 1)).toNat) d_Idx).Name) ((p_0.Idxs.getD k30 d_Idx).Name)))), DetI (.bool (!(sLt ((p_0.Idxs.getD ((IntKind.wrap .i64 ((k30 : Int) - 1)).toNat) d_Idx).Name) ((p_0.Idxs.getD k30 d_Idx).Name))))]) Try.follows rfl rfl rfl rfl rfl rfl (vgetI_stable ⟨StableI.det _, StableI.det _, StableI.det _, StableI.det _, StableI.det _, StableI.det _, StableI.det _, StableI.det _, StableI.det _, StableI.det _, StableI.det _, StableI.det _, StableI.det _, StableI.det _, StableI.det _, StableI.det _, StableI.det _, StableI.det _, StableI.det _, StableI.det _, StableI.det _, StableI.det _, StableI.det _, StableI.det _, StableI.det _, StableI.det _, StableI.det _, StableI.det _, StableI.det _, StableI.det _, StableI.det _, StableI.det _, StableI.det _, StableI.det _, StableI.det _, StableI.det _, trivial⟩) ⟨?_, ?_, ?_, ?_, ?_, ?_, ?_, ?_, ?_, ?_, ?_, ?_, ?_, ?_, ?_, ?_, ?_, ?_, ?_, ?_, ?_, ?_, ?_, ?_, ?_, ?_, ?_, ?_, ?_, ?_, ?_, ?_, ?_, ?_, ?_, ?_, trivial⟩ ?_
                    · intro L130 w131 hi132
                      have hE133 := hi132.ex
                      have hE133z := Ex.size hE133
                      have hx134 := hi132.old 4 _ rfl rfl
                      exact OpR.op' rfl (Yl.sameI (yl_fieldAddr Try.fd149_0 rfl hx134 ⟨fun _ _ => rfl, rfl⟩))
                    · intro L135 w136 hi137
                      have hE138 := hi137.ex
                      have hE138z := Ex.size hE138
                      obtain ⟨_, _, _, hx139, -, -, -, rfl⟩ := hi137.dep 0 29 rfl rfl
                      have q140 := Box.ex hB101 hE138
                      exact OpR.op' rfl (Yl.sameI (yl_load1 Try.ty9 rfl hx139 ((q140.cell 0).trans rfl) ⟨fun _ _ => rfl, rfl⟩))
                    · intro L141 w142 hi143
                      have hE144 := hi143.ex
                      have hE144z := Ex.size hE144
                      obtain ⟨_, _, _, hx145, -, -, -, rfl⟩ := hi143.dep 1 30 rfl rfl
                      refine OpR.op' rfl (yl_call Try.en116 rfl (opvs_cons hx145 (opvs_cons rfl opvs_nil)) (Cal.mono (c_s_l24Letters ((p_0.Idxs.getD k30 d_Idx).Name) 1 (okL.getD o3.2.2 ok_d_Idx _)) ?_))
                      rintro v147 w146 ⟨rfl, hE148⟩
                      exact ⟨rfl, hE148⟩
                    · intro L149 w150 hi151
                      have hE152 := hi151.ex
                      have hE152z := Ex.size hE152
                      obtain ⟨_, _, _, hx153, -, -, -, rfl⟩ := hi151.dep 2 31 rfl rfl
                      exact OpR.op' rfl (Yl.sameI (yl_not rfl hx153 ⟨fun _ _ => rfl, rfl⟩))
                    · intro L154 w155 hi156
                      have hE157 := hi156.ex
                      have hE157z := Ex.size hE157
                      obtain ⟨_, _, _, hx158, -, -, -, rfl⟩ := hi156.dep 3 32 rfl rfl
                      exact OpR.op' rfl (Yl.sameI (yl_move rfl hx158 ⟨fun _ _ => rfl, rfl⟩))
                    · intro L159 w160 hi161
                      have hE162 := hi161.ex
                      have hE162z := Ex.size hE162
                      obtain ⟨_, _, _, hx163, -, -, -, rfl⟩ := hi161.dep 4 33 rfl rfl
                      have hx164 := hi161.old 4 _ rfl rfl
                      exact OpR.want rfl rfl hx163 (not_t hb104) (Yl.sameI (yl_fieldAddr Try.fd149_1 rfl hx164 ⟨fun _ _ => rfl, rfl⟩))
                    · intro L165 w166 hi167
                      have hE168 := hi167.ex
                      have hE168z := Ex.size hE168
                      obtain ⟨_, _, _, hx169, -, -, -, rfl⟩ := hi167.dep 4 33 rfl rfl
                      obtain ⟨_, _, _, hx170, -, -, -, rfl⟩ := hi167.dep 5 34 rfl rfl
                      have q171 := Box.ex hB101 hE168
                      exact OpR.want rfl rfl hx169 (not_t hb104) (Yl.sameI (yl_load1 Try.ty3 rfl hx170 ((q171.cell 1).trans rfl) ⟨fun _ _ => rfl, rfl⟩))
                    · intro L172 w173 hi174
                      have hE175 := hi174.ex
                      have hE175z := Ex.size hE175
                      obtain ⟨_, _, _, hx176, -, -, -, rfl⟩ := hi174.dep 4 33 rfl rfl
                      have hx177 := hi174.old 1 _ rfl rfl
                      exact OpR.want rfl rfl hx176 (not_t hb104) (Yl.sameI (yl_fieldAddr Try.fd84_1 rfl hx177 ⟨fun _ _ => rfl, rfl⟩))
                    · intro L178 w179 hi180
                      have hE181 := hi180.ex
                      have hE181z := Ex.size hE181
                      obtain ⟨_, _, _, hx182, -, -, -, rfl⟩ := hi180.dep 4 33 rfl rfl
                      obtain ⟨_, _, _, hx183, -, -, -, rfl⟩ := hi180.dep 7 36 rfl rfl
                      have q184 := Box.ex q124 hE181
                      exact OpR.want rfl rfl hx182 (not_t hb104) (Yl.sameI (yl_load1 Try.ty73 rfl hx183 ((q184.cell 1).trans rfl) ⟨fun _ _ => rfl, rfl⟩))
                    · intro L185 w186 hi187
                      have hE188 := hi187.ex
                      have hE188z := Ex.size hE188
                      obtain ⟨_, _, _, hx189, -, -, -, rfl⟩ := hi187.dep 4 33 rfl rfl
                      obtain ⟨_, _, _, hx190, -, -, -, rfl⟩ := hi187.dep 8 37 rfl rfl
                      exact OpR.want rfl rfl hx189 (not_t hb104) (Yl.sameI (yl_len Try.un73 rfl hx190 ⟨fun _ _ => rfl, rfl⟩))
                    · intro L191 w192 hi193
                      have hE194 := hi193.ex
                      have hE194z := Ex.size hE194
                      obtain ⟨_, _, _, hx195, -, -, -, rfl⟩ := hi193.dep 4 33 rfl rfl
                      obtain ⟨_, _, _, hx196, -, -, -, rfl⟩ := hi193.dep 9 38 rfl rfl
                      exact OpR.want rfl rfl hx195 (not_t hb104) (Yl.sameI (yl_sub rfl hx196 rfl ⟨fun _ _ => rfl, rfl⟩))
                    · intro L197 w198 hi199
                      have hE200 := hi199.ex
                      have hE200z := Ex.size hE200
                      obtain ⟨_, _, _, hx201, -, -, -, rfl⟩ := hi199.dep 4 33 rfl rfl
                      obtain ⟨_, _, _, hx202, -, -, -, rfl⟩ := hi199.dep 6 35 rfl rfl
                      obtain ⟨_, _, _, hx203, -, -, -, rfl⟩ := hi199.dep 10 39 rfl rfl
                      refine OpR.want rfl rfl hx201 (not_t hb104) (yl_call Try.en50 rfl (opvs_cons hx202 (opvs_cons rfl (opvs_cons hx203 opvs_nil))) (Cal.mono (c_s_l1In ((p_0.Idxs.getD k30 d_Idx).Col) 1 (IntKind.wrap .i64 ((p_0.Cols.length : Int) - 1))) ?_))
                      rintro v205 w204 ⟨rfl, hE206⟩
                      exact ⟨rfl, hE206⟩
                    · intro L207 w208 hi209
                      have hE210 := hi209.ex
                      have hE210z := Ex.size hE210
                      obtain ⟨_, _, _, hx211, -, -, -, rfl⟩ := hi209.dep 4 33 rfl rfl
                      obtain ⟨_, _, _, hx212, -, -, -, rfl⟩ := hi209.dep 11 40 rfl rfl
                      exact OpR.want rfl rfl hx211 (not_t hb104) (Yl.sameI (yl_not rfl hx212 ⟨fun _ _ => rfl, rfl⟩))
                    · intro L213 w214 hi215
                      have hE216 := hi215.ex
                      have hE216z := Ex.size hE216
                      obtain ⟨_, _, _, hx217, -, -, -, rfl⟩ := hi215.dep 12 41 rfl rfl
                      obtain ⟨_, _, _, hx218, -, -, -, rfl⟩ := hi215.dep 4 33 rfl rfl
                      exact OpR.op' rfl (Yl.sameI (yl_pick_f rfl hx218 (not_t hb104) hx217 ⟨fun _ _ => rfl, rfl⟩))
                    · intro L219 w220 hi221
                      have hE222 := hi221.ex
                      have hE222z := Ex.size hE222
                      obtain ⟨_, _, _, hx223, -, -, -, rfl⟩ := hi221.dep 13 42 rfl rfl
                      exact OpR.op' rfl (Yl.sameI (yl_move rfl hx223 ⟨fun _ _ => rfl, rfl⟩))
                    · intro L224 w225 hi226
                      have hE227 := hi226.ex
                      have hE227z := Ex.size hE227
                      obtain ⟨_, _, _, hx228, -, -, -, rfl⟩ := hi226.dep 14 43 rfl rfl
                      have hx229 := hi226.old 4 _ rfl rfl
                      exact OpR.want rfl rfl hx228 (not_t hb109) (Yl.sameI (yl_fieldAddr Try.fd149_2 rfl hx229 ⟨fun _ _ => rfl, rfl⟩))
                    · intro L230 w231 hi232
                      have hE233 := hi232.ex
                      have hE233z := Ex.size hE233
                      obtain ⟨_, _, _, hx234, -, -, -, rfl⟩ := hi232.dep 14 43 rfl rfl
                      obtain ⟨_, _, _, hx235, -, -, -, rfl⟩ := hi232.dep 15 44 rfl rfl
                      have q236 := Box.ex hB101 hE233
                      exact OpR.want rfl rfl hx234 (not_t hb109) (Yl.sameI (yl_load1 Try.ty3 rfl hx235 ((q236.cell 2).trans rfl) ⟨fun _ _ => rfl, rfl⟩))
                    · intro L237 w238 hi239
                      have hE240 := hi239.ex
                      have hE240z := Ex.size hE240
                      obtain ⟨_, _, _, hx241, -, -, -, rfl⟩ := hi239.dep 14 43 rfl rfl
                      obtain ⟨_, _, _, hx242, -, -, -, rfl⟩ := hi239.dep 16 45 rfl rfl
                      refine OpR.want rfl rfl hx241 (not_t hb109) (yl_call Try.en50 rfl (opvs_cons hx242 (opvs_cons rfl (opvs_cons rfl opvs_nil))) (Cal.mono (c_s_l1In ((p_0.Idxs.getD k30 d_Idx).Stage) 0 3) ?_))
                      rintro v244 w243 ⟨rfl, hE245⟩
                      exact ⟨rfl, hE245⟩
                    · intro L246 w247 hi248
                      have hE249 := hi248.ex
                      have hE249z := Ex.size hE249
                      obtain ⟨_, _, _, hx250, -, -, -, rfl⟩ := hi248.dep 14 43 rfl rfl
                      obtain ⟨_, _, _, hx251, -, -, -, rfl⟩ := hi248.dep 17 46 rfl rfl
                      exact OpR.want rfl rfl hx250 (not_t hb109) (Yl.sameI (yl_not rfl hx251 ⟨fun _ _ => rfl, rfl⟩))
                    · intro L252 w253 hi254
                      have hE255 := hi254.ex
                      have hE255z := Ex.size hE255
                      obtain ⟨_, _, _, hx256, -, -, -, rfl⟩ := hi254.dep 18 47 rfl rfl
                      obtain ⟨_, _, _, hx257, -, -, -, rfl⟩ := hi254.dep 14 43 rfl rfl
                      exact OpR.op' rfl (Yl.sameI (yl_pick_f rfl hx257 (not_t hb109) hx256 ⟨fun _ _ => rfl, rfl⟩))
                    · intro L258 w259 hi260
                      have hE261 := hi260.ex
                      have hE261z := Ex.size hE261
                      obtain ⟨_, _, _, hx262, -, -, -, rfl⟩ := hi260.dep 19 48 rfl rfl
                      exact OpR.op' rfl (Yl.sameI (yl_move rfl hx262 ⟨fun _ _ => rfl, rfl⟩))
                    · intro L263 w264 hi265
                      have hE266 := hi265.ex
                      have hE266z := Ex.size hE266
                      obtain ⟨_, _, _, hx267, -, -, -, rfl⟩ := hi265.dep 20 49 rfl rfl
                      have hx268 := hi265.old 3 _ rfl rfl
                      exact OpR.want rfl rfl hx267 (not_t hb115) (Yl.sameI (yl_move rfl hx268 ⟨fun _ _ => rfl, rfl⟩))
                    · intro L269 w270 hi271
                      have hE272 := hi271.ex
                      have hE272z := Ex.size hE272
                      obtain ⟨_, _, _, hx273, -, -, -, rfl⟩ := hi271.dep 20 49 rfl rfl
                      obtain ⟨_, _, _, hx274, -, -, -, rfl⟩ := hi271.dep 21 50 rfl rfl
                      exact OpR.want rfl rfl hx273 (not_t hb115) (Yl.sameI (yl_gtr rfl hx274 rfl ⟨fun _ _ => rfl, rfl⟩))
                    · intro L275 w276 hi277
                      have hE278 := hi277.ex
                      have hE278z := Ex.size hE278
                      obtain ⟨_, _, _, hx279, -, -, -, rfl⟩ := hi277.dep 20 49 rfl rfl
                      obtain ⟨_, _, _, hx280, -, -, -, rfl⟩ := hi277.dep 22 51 rfl rfl
                      exact OpR.want rfl rfl hx279 (not_t hb115) (Yl.sameI (yl_move rfl hx280 ⟨fun _ _ => rfl, rfl⟩))
                    · intro L281 w282 hi283
                      have hE284 := hi283.ex
                      have hE284z := Ex.size hE284
                      obtain ⟨_, _, _, hx285, -, -, -, rfl⟩ := hi283.dep 23 52 rfl rfl
                      have hx286 := hi283.old 1 _ rfl rfl
                      exact OpR.want rfl rfl hx285 hb121 (Yl.sameI (yl_fieldAddr Try.fd84_2 rfl hx286 ⟨fun _ _ => rfl, rfl⟩))
                    · intro L287 w288 hi289
                      have hE290 := hi289.ex
                      have hE290z := Ex.size hE290
                      obtain ⟨_, _, _, hx291, -, -, -, rfl⟩ := hi289.dep 23 52 rfl rfl
                      obtain ⟨_, _, _, hx292, -, -, -, rfl⟩ := hi289.dep 24 53 rfl rfl
                      have q293 := Box.ex q124 hE290
                      exact OpR.want rfl rfl hx291 hb121 (Yl.sameI (yl_load1 Try.ty82 rfl hx292 ((q293.cell 2).trans rfl) ⟨fun _ _ => rfl, rfl⟩))
                    · intro L294 w295 hi296
                      have hE297 := hi296.ex
                      have hE297z := Ex.size hE297
                      obtain ⟨_, _, _, hx298, -, -, -, rfl⟩ := hi296.dep 23 52 rfl rfl
                      have hx299 := hi296.old 3 _ rfl rfl
                      exact OpR.want rfl rfl hx298 hb121 (Yl.sameI (yl_move rfl hx299 ⟨fun _ _ => rfl, rfl⟩))
                    · intro L300 w301 hi302
                      have hE303 := hi302.ex
                      have hE303z := Ex.size hE303
                      obtain ⟨_, _, _, hx304, -, -, -, rfl⟩ := hi302.dep 23 52 rfl rfl
                      obtain ⟨_, _, _, hx305, -, -, -, rfl⟩ := hi302.dep 26 55 rfl rfl
                      exact OpR.want rfl rfl hx304 hb121 (Yl.sameI (yl_sub rfl hx305 rfl ⟨fun _ _ => rfl, rfl⟩))
                    · intro L306 w307 hi308
                      have hE309 := hi308.ex
                      have hE309z := Ex.size hE309
                      obtain ⟨_, _, _, hx310, -, -, -, rfl⟩ := hi308.dep 23 52 rfl rfl
                      obtain ⟨_, _, _, hx311, -, -, -, rfl⟩ := hi308.dep 25 54 rfl rfl
                      obtain ⟨_, _, _, hx312, -, -, -, rfl⟩ := hi308.dep 27 56 rfl rfl
                      exact OpR.want rfl rfl hx310 hb121 (Yl.sameI (yl_indexAddr Try.un82 Try.ty149 rfl hx311 hx312 eA129 (by first | omega | assumption | (simp only [IntKind.wrap_i64] at *; omega)) (by first | omega | assumption | (simp only [IntKind.wrap_i64] at *; omega)) ⟨fun _ _ => rfl, rfl⟩))
                    · intro L313 w314 hi315
                      have hE316 := hi315.ex
                      have hE316z := Ex.size hE316
                      obtain ⟨_, _, _, hx317, -, -, -, rfl⟩ := hi315.dep 23 52 rfl rfl
                      obtain ⟨_, _, _, hx318, -, -, -, rfl⟩ := hi315.dep 28 57 rfl rfl
                      exact OpR.want rfl rfl hx317 hb121 (Yl.sameI (yl_fieldAddr Try.fd149_0 rfl hx318 ⟨fun _ _ => rfl, rfl⟩))
                    · intro L319 w320 hi321
                      have hE322 := hi321.ex
                      have hE322z := Ex.size hE322
                      obtain ⟨_, _, _, hx323, -, -, -, rfl⟩ := hi321.dep 23 52 rfl rfl
                      obtain ⟨_, _, _, hx324, -, -, -, rfl⟩ := hi321.dep 29 58 rfl rfl
                      have q325 := Cells.ex eC129 hE322
                      exact OpR.want rfl rfl hx323 hb121 (Yl.sameI (yl_load1 Try.ty9 rfl hx324 (q325 0 _ rfl) ⟨fun _ _ => rfl, rfl⟩))
                    · intro L326 w327 hi328
                      have hE329 := hi328.ex
                      have hE329z := Ex.size hE329
                      obtain ⟨_, _, _, hx330, -, -, -, rfl⟩ := hi328.dep 23 52 rfl rfl
                      have hx331 := hi328.old 4 _ rfl rfl
                      exact OpR.want rfl rfl hx330 hb121 (Yl.sameI (yl_fieldAddr Try.fd149_0 rfl hx331 ⟨fun _ _ => rfl, rfl⟩))
                    · intro L332 w333 hi334
                      have hE335 := hi334.ex
                      have hE335z := Ex.size hE335
                      obtain ⟨_, _, _, hx336, -, -, -, rfl⟩ := hi334.dep 23 52 rfl rfl
                      obtain ⟨_, _, _, hx337, -, -, -, rfl⟩ := hi334.dep 31 60 rfl rfl
                      have q338 := Box.ex hB101 hE335
                      exact OpR.want rfl rfl hx336 hb121 (Yl.sameI (yl_load1 Try.ty9 rfl hx337 ((q338.cell 0).trans rfl) ⟨fun _ _ => rfl, rfl⟩))
                    · intro L339 w340 hi341
                      have hE342 := hi341.ex
                      have hE342z := Ex.size hE342
                      obtain ⟨_, _, _, hx343, -, -, -, rfl⟩ := hi341.dep 23 52 rfl rfl
                      obtain ⟨_, _, _, hx344, -, -, -, rfl⟩ := hi341.dep 30 59 rfl rfl
                      obtain ⟨_, _, _, hx345, -, -, -, rfl⟩ := hi341.dep 32 61 rfl rfl
                      exact OpR.want rfl rfl hx343 hb121 (Yl.sameI (yl_sgeq (a := ((p_0.Idxs.getD ((IntKind.wrap .i64 ((k30 : Int) - 1)).toNat) d_Idx).Name)) (b := ((p_0.Idxs.getD k30 d_Idx).Name)) rfl hx344 hx345 ⟨fun _ _ => rfl, rfl⟩))
                    · intro L346 w347 hi348
                      have hE349 := hi348.ex
                      have hE349z := Ex.size hE349
                      obtain ⟨_, _, _, hx350, -, -, -, rfl⟩ := hi348.dep 20 49 rfl rfl
                      obtain ⟨_, _, _, hx351, -, -, -, rfl⟩ := hi348.dep 33 62 rfl rfl
                      obtain ⟨_, _, _, hx352, -, -, -, rfl⟩ := hi348.dep 23 52 rfl rfl
                      exact OpR.want rfl rfl hx350 (not_t hb115) (Yl.sameI (yl_pick_t rfl hx352 hb121 hx351 ⟨fun _ _ => rfl, rfl⟩))
                    · intro L353 w354 hi355
                      have hE356 := hi355.ex
                      have hE356z := Ex.size hE356
                      obtain ⟨_, _, _, hx357, -, -, -, rfl⟩ := hi355.dep 34 63 rfl rfl
                      obtain ⟨_, _, _, hx358, -, -, -, rfl⟩ := hi355.dep 20 49 rfl rfl
                      exact OpR.op' rfl (Yl.sameI (yl_pick_f rfl hx358 (not_t hb115) hx357 ⟨fun _ _ => rfl, rfl⟩))
                    · intro fl362 fh363 L359 w360 hp361
                      have hE364 := hp361.ex
                      have hE364z := Ex.size hE364
                      have hx365 := hp361.old 1 _ rfl rfl
                      have hx366 := hp361.old 22 _ rfl rfl
                      have hx367 := hp361.old 23 _ rfl rfl
                      have hx368 := hp361.old 24 _ rfl rfl
                      obtain ⟨_, hx369, rfl⟩ := hp361.new 5 34 rfl rfl
                      obtain ⟨_, hx370, rfl⟩ := hp361.new 6 35 rfl rfl
                      obtain ⟨_, hx371, rfl⟩ := hp361.new 7 36 rfl rfl
                      obtain ⟨_, hx372, rfl⟩ := hp361.new 8 37 rfl rfl
                      obtain ⟨_, hx373, rfl⟩ := hp361.new 9 38 rfl rfl
                      obtain ⟨_, hx374, rfl⟩ := hp361.new 10 39 rfl rfl
                      obtain ⟨_, hx375, rfl⟩ := hp361.new 11 40 rfl rfl
                      obtain ⟨_, hx376, rfl⟩ := hp361.new 12 41 rfl rfl
                      obtain ⟨_, hx377, rfl⟩ := hp361.new 15 44 rfl rfl
                      obtain ⟨_, hx378, rfl⟩ := hp361.new 16 45 rfl rfl
                      obtain ⟨_, hx379, rfl⟩ := hp361.new 17 46 rfl rfl
                      obtain ⟨_, hx380, rfl⟩ := hp361.new 18 47 rfl rfl
                      obtain ⟨_, hx381, rfl⟩ := hp361.new 21 50 rfl rfl
                      obtain ⟨_, hx382, rfl⟩ := hp361.new 22 51 rfl rfl
                      obtain ⟨_, hx383, rfl⟩ := hp361.new 23 52 rfl rfl
                      obtain ⟨_, hx384, rfl⟩ := hp361.new 24 53 rfl rfl
                      obtain ⟨_, hx385, rfl⟩ := hp361.new 25 54 rfl rfl
                      obtain ⟨_, hx386, rfl⟩ := hp361.new 26 55 rfl rfl
                      obtain ⟨_, hx387, rfl⟩ := hp361.new 27 56 rfl rfl
                      obtain ⟨_, hx388, rfl⟩ := hp361.new 28 57 rfl rfl
                      obtain ⟨_, hx389, rfl⟩ := hp361.new 29 58 rfl rfl
                      obtain ⟨_, hx390, rfl⟩ := hp361.new 30 59 rfl rfl
                      obtain ⟨_, hx391, rfl⟩ := hp361.new 31 60 rfl rfl
                      obtain ⟨_, hx392, rfl⟩ := hp361.new 32 61 rfl rfl
                      obtain ⟨_, hx393, rfl⟩ := hp361.new 33 62 rfl rfl
                      obtain ⟨_, hx394, rfl⟩ := hp361.new 34 63 rfl rfl
                      obtain ⟨_, hx395, rfl⟩ := hp361.new 35 64 rfl rfl
                      refine SeqR.done ?_
                      refine tn ?_
                      refine CW.sub (Sub.cons (d := 1) hx365 (Sub.cons (d := 22) hx366 (Sub.cons (d := 23) hx367 (Sub.cons (d := 24) hx368 (Sub.cons (d := 34) hx369 (Sub.cons (d := 35) hx370 (Sub.cons (d := 36) hx371 (Sub.cons (d := 37) hx372 (Sub.cons (d := 38) hx373 (Sub.cons (d := 39) hx374 (Sub.cons (d := 40) hx375 (Sub.cons (d := 41) hx376 (Sub.cons (d := 44) hx377 (Sub.cons (d := 45) hx378 (Sub.cons (d := 46) hx379 (Sub.cons (d := 47) hx380 (Sub.cons (d := 50) hx381 (Sub.cons (d := 51) hx382 (Sub.cons (d := 52) hx383 (Sub.cons (d := 53) hx384 (Sub.cons (d := 54) hx385 (Sub.cons (d := 55) hx386 (Sub.cons (d := 56) hx387 (Sub.cons (d := 57) hx388 (Sub.cons (d := 58) hx389 (Sub.cons (d := 59) hx390 (Sub.cons (d := 60) hx391 (Sub.cons (d := 61) hx392 (Sub.cons (d := 62) hx393 (Sub.cons (d := 63) hx394 (Sub.cons (d := 64) hx395 (Sub.nil _)))))))))))))))))))))))))))))))) ?_
                      refine bcase (sLt ((p_0.Idxs.getD ((IntKind.wrap .i64 ((k30 : Int) - 1)).toNat) d_Idx).Name) ((p_0.Idxs.getD k30 d_Idx).Name)) (fun hb396 => ?_) (fun hb396 => ?_)
                      · skip
                        refine CW.cond_f rfl (not_t hb396) ?_
                        refine CW.skip ?_
                        refine bn ?_
                        refine tn ?_
                        refine CW.region ?_
                        refine SeqR.d1 rfl rfl rfl (yl_inc rfl rfl rfl (by omega) ?_)
                        refine SeqR.d1 rfl rfl rfl (yl_move rfl rfl ?_)
                        refine SeqR.done ?_
                        refine tn ?_
                        have hB397 : B_s_GoodTable_0 p_0 k30 () = .cont () := by simp only [B_s_GoodTable_0, hb16, hb23, hb25, hb104, hb109, hb115, hb121, hb396, cond_true, cond_false, loopE_done, loopE_ret]
                        have q398 := Box.ex q124 hE364
                        have q399 := RdS.ex good_Str hf88 hE99
                        have q400 := RdS.only good_Str q399 hO102 (by simp only [Iv]; omega)
                        have q401 := RdS.ex good_Str q400 hE364
                        have q402 := RdS.ex good_Idx q128 hE364
                        have q403 := Ex.trans hf90 hE99
                        have q404 := Below.only q403 hO102 (by omega)
                        have q405 := Ex.trans q404 hE364
                        exact ⟨p_0.Idxs.length - (k30 + 1), by omega, k30 + 1, rfl, hlt92, rfl, rfl, rfl, rfl, q398, q401, q402, q405, (loopM.cont hlt92 hB397).symm.trans hI82⟩
                      · skip
                        refine CW.cond_t rfl (not_f hb396) ?_
                        refine CW.seq ?_
                        refine CW.region ?_
                        refine SeqR.d1 rfl rfl rfl (yl_assign rfl rfl ?_)
                        refine SeqR.done ?_
                        refine tn ?_
                        refine CW.ret ?_
                        refine br ?_
                        refine tr ?_
                        refine tr ?_
                        have hB407 : B_s_GoodTable_0 p_0 k30 () = .ret false := by simp only [B_s_GoodTable_0, hb16, hb23, hb25, hb104, hb109, hb115, hb121, hb396, cond_true, cond_false, loopE_done, loopE_ret]
                        have hL406 : loopM (B_s_GoodTable_0 p_0) (p_0.Idxs.length - 0) 0 () = .ret false := hI82.symm.trans (loopM.ret hlt92 hB407)
                        refine br ?_
                        refine tr ?_
                        refine rr rfl (.cons rfl .nil) ?_
                        have hM408 : (s_GoodTable p_0) = (false) := by simp only [s_GoodTable, hb16, hb23, hb25, hb104, hb109, hb115, hb121, hb396, hL406, cond_true, cond_false, loopE_done, loopE_ret]
                        rw [hM408]
                        have q409 := Ex.trans hf90 hE99
                        have q410 := Below.only q409 hO102 (by omega)
                        have q411 := Ex.trans q410 hE364
                        exact ⟨rfl, q411⟩
                  · have hb121p := dec_f hb121
                    have q413 := Box.ex hf87 hE99
                    have q414 := Box.only q413 hO102 (by omega)
                    refine CW.drawsI 36 (vgetI [DetI (.pointer (some ⟨b94, 0 + 0, none⟩)), DetI (.string (bs ((p_0.Idxs.getD k30 d_Idx).Name))), DetI (.bool ((s_l24Letters ((p_0.Idxs.getD k30 d_Idx).Name) 1))), DetI (.bool (!(s_l24Letters ((p_0.Idxs.getD k30 d_Idx).Name) 1))), DetI (.bool (!(s_l24Letters ((p_0.Idxs.getD k30 d_Idx).Name) 1))), DetI (.pointer (some ⟨b94, 0 + 1, none⟩)), DetI (.int .i64 ((p_0.Idxs.getD k30 d_Idx).Col)), DetI (.pointer (some ⟨b7, 0 + 1, none⟩)), DetI (.slice A1 p_0.Cols.length c1), DetI (.int .i64 ((p_0.Cols.length : Int))), DetI (.int .i64 (IntKind.wrap .i64 ((p_0.Cols.length : Int) - 1))), DetI (.bool ((s_l1In ((p_0.Idxs.getD k30 d_Idx).Col) 1 (IntKind.wrap .i64 ((p_0.Cols.length : Int) - 1))))), DetI (.bool (!(s_l1In ((p_0.Idxs.getD k30 d_Idx).Col) 1 (IntKind.wrap .i64 ((p_0.Cols.length : Int) - 1))))), DetI (.bool (!(s_l1In ((p_0.Idxs.getD k30 d_Idx).Col) 1 (IntKind.wrap .i64 ((p_0.Cols.length : Int) - 1))))), DetI (.bool (!(s_l1In ((p_0.Idxs.getD k30 d_Idx).Col) 1 (IntKind.wrap .i64 ((p_0.Cols.length : Int) - 1))))), DetI (.pointer (some ⟨b94, 0 + 2, none⟩)), DetI (.int .i64 ((p_0.Idxs.getD k30 d_Idx).Stage)), DetI (.bool ((s_l1In ((p_0.Idxs.getD k30 d_Idx).Stage) 0 3))), DetI (.bool (!(s_l1In ((p_0.Idxs.getD k30 d_Idx).Stage) 0 3))), DetI (.bool (!(s_l1In ((p_0.Idxs.getD k30 d_Idx).Stage) 0 3))), DetI (.bool (!(s_l1In ((p_0.Idxs.getD k30 d_Idx).Stage) 0 3))), DetI (.int .i64 ((k30 : Int))), DetI (.bool (decide (0 < (k30 : Int)))), DetI (.bool (decide (0 < (k30 : Int)))), DetI (undef), DetI (undef), DetI (undef), DetI (undef), DetI (undef), DetI (undef), DetI (undef), DetI (undef), DetI (undef), DetI (undef), DetI (.bool (false)), DetI (.bool (false))]) Try.follows rfl rfl rfl rfl rfl rfl (vgetI_stable ⟨StableI.det _, StableI.det _, StableI.det _, StableI.det _, StableI.det _, StableI.det _, StableI.det _, StableI.det _, StableI.det _, StableI.det _, StableI.det _, StableI.det _, StableI.det _, StableI.det _, StableI.det _, StableI.det _, StableI.det _, StableI.det _, StableI.det _, StableI.det _, StableI.det _, StableI.det _, StableI.det _, StableI.det _, StableI.det _, StableI.det _, StableI.det _, StableI.det _, StableI.det _, StableI.det _, StableI.det _, StableI.det _, StableI.det _, StableI.det _, StableI.det _, StableI.det _, trivial⟩) ⟨?_, ?_, ?_, ?_, ?_, ?_, ?_, ?_, ?_, ?_, ?_, ?_, ?_, ?_, ?_, ?_, ?_, ?_, ?_, ?_, ?_, ?_, ?_, ?_, ?_, ?_, ?_, ?_, ?_, ?_, ?_, ?_, ?_, ?_, ?_, ?_, trivial⟩ ?_
                    · intro L417 w418 hi419
                      have hE420 := hi419.ex
                      have hE420z := Ex.size hE420
                      have hx421 := hi419.old 4 _ rfl rfl
                      exact OpR.op' rfl (Yl.sameI (yl_fieldAddr Try.fd149_0 rfl hx421 ⟨fun _ _ => rfl, rfl⟩))
                    · intro L422 w423 hi424
                      have hE425 := hi424.ex
                      have hE425z := Ex.size hE425
                      obtain ⟨_, _, _, hx426, -, -, -, rfl⟩ := hi424.dep 0 29 rfl rfl
                      have q427 := Box.ex hB101 hE425
                      exact OpR.op' rfl (Yl.sameI (yl_load1 Try.ty9 rfl hx426 ((q427.cell 0).trans rfl) ⟨fun _ _ => rfl, rfl⟩))
                    · intro L428 w429 hi430
                      have hE431 := hi430.ex
                      have hE431z := Ex.size hE431
                      obtain ⟨_, _, _, hx432, -, -, -, rfl⟩ := hi430.dep 1 30 rfl rfl
                      refine OpR.op' rfl (yl_call Try.en116 rfl (opvs_cons hx432 (opvs_cons rfl opvs_nil)) (Cal.mono (c_s_l24Letters ((p_0.Idxs.getD k30 d_Idx).Name) 1 (okL.getD o3.2.2 ok_d_Idx _)) ?_))
                      rintro v434 w433 ⟨rfl, hE435⟩
                      exact ⟨rfl, hE435⟩
                    · intro L436 w437 hi438
                      have hE439 := hi438.ex
                      have hE439z := Ex.size hE439
                      obtain ⟨_, _, _, hx440, -, -, -, rfl⟩ := hi438.dep 2 31 rfl rfl
                      exact OpR.op' rfl (Yl.sameI (yl_not rfl hx440 ⟨fun _ _ => rfl, rfl⟩))
                    · intro L441 w442 hi443
                      have hE444 := hi443.ex
                      have hE444z := Ex.size hE444
                      obtain ⟨_, _, _, hx445, -, -, -, rfl⟩ := hi443.dep 3 32 rfl rfl
                      exact OpR.op' rfl (Yl.sameI (yl_move rfl hx445 ⟨fun _ _ => rfl, rfl⟩))
                    · intro L446 w447 hi448
                      have hE449 := hi448.ex
                      have hE449z := Ex.size hE449
                      obtain ⟨_, _, _, hx450, -, -, -, rfl⟩ := hi448.dep 4 33 rfl rfl
                      have hx451 := hi448.old 4 _ rfl rfl
                      exact OpR.want rfl rfl hx450 (not_t hb104) (Yl.sameI (yl_fieldAddr Try.fd149_1 rfl hx451 ⟨fun _ _ => rfl, rfl⟩))
                    · intro L452 w453 hi454
                      have hE455 := hi454.ex
                      have hE455z := Ex.size hE455
                      obtain ⟨_, _, _, hx456, -, -, -, rfl⟩ := hi454.dep 4 33 rfl rfl
                      obtain ⟨_, _, _, hx457, -, -, -, rfl⟩ := hi454.dep 5 34 rfl rfl
                      have q458 := Box.ex hB101 hE455
                      exact OpR.want rfl rfl hx456 (not_t hb104) (Yl.sameI (yl_load1 Try.ty3 rfl hx457 ((q458.cell 1).trans rfl) ⟨fun _ _ => rfl, rfl⟩))
                    · intro L459 w460 hi461
                      have hE462 := hi461.ex
                      have hE462z := Ex.size hE462
                      obtain ⟨_, _, _, hx463, -, -, -, rfl⟩ := hi461.dep 4 33 rfl rfl
                      have hx464 := hi461.old 1 _ rfl rfl
                      exact OpR.want rfl rfl hx463 (not_t hb104) (Yl.sameI (yl_fieldAddr Try.fd84_1 rfl hx464 ⟨fun _ _ => rfl, rfl⟩))
                    · intro L465 w466 hi467
                      have hE468 := hi467.ex
                      have hE468z := Ex.size hE468
                      obtain ⟨_, _, _, hx469, -, -, -, rfl⟩ := hi467.dep 4 33 rfl rfl
                      obtain ⟨_, _, _, hx470, -, -, -, rfl⟩ := hi467.dep 7 36 rfl rfl
                      have q471 := Box.ex q414 hE468
                      exact OpR.want rfl rfl hx469 (not_t hb104) (Yl.sameI (yl_load1 Try.ty73 rfl hx470 ((q471.cell 1).trans rfl) ⟨fun _ _ => rfl, rfl⟩))
                    · intro L472 w473 hi474
                      have hE475 := hi474.ex
                      have hE475z := Ex.size hE475
                      obtain ⟨_, _, _, hx476, -, -, -, rfl⟩ := hi474.dep 4 33 rfl rfl
                      obtain ⟨_, _, _, hx477, -, -, -, rfl⟩ := hi474.dep 8 37 rfl rfl
                      exact OpR.want rfl rfl hx476 (not_t hb104) (Yl.sameI (yl_len Try.un73 rfl hx477 ⟨fun _ _ => rfl, rfl⟩))
                    · intro L478 w479 hi480
                      have hE481 := hi480.ex
                      have hE481z := Ex.size hE481
                      obtain ⟨_, _, _, hx482, -, -, -, rfl⟩ := hi480.dep 4 33 rfl rfl
                      obtain ⟨_, _, _, hx483, -, -, -, rfl⟩ := hi480.dep 9 38 rfl rfl
                      exact OpR.want rfl rfl hx482 (not_t hb104) (Yl.sameI (yl_sub rfl hx483 rfl ⟨fun _ _ => rfl, rfl⟩))
                    · intro L484 w485 hi486
                      have hE487 := hi486.ex
                      have hE487z := Ex.size hE487
                      obtain ⟨_, _, _, hx488, -, -, -, rfl⟩ := hi486.dep 4 33 rfl rfl
                      obtain ⟨_, _, _, hx489, -, -, -, rfl⟩ := hi486.dep 6 35 rfl rfl
                      obtain ⟨_, _, _, hx490, -, -, -, rfl⟩ := hi486.dep 10 39 rfl rfl
                      refine OpR.want rfl rfl hx488 (not_t hb104) (yl_call Try.en50 rfl (opvs_cons hx489 (opvs_cons rfl (opvs_cons hx490 opvs_nil))) (Cal.mono (c_s_l1In ((p_0.Idxs.getD k30 d_Idx).Col) 1 (IntKind.wrap .i64 ((p_0.Cols.length : Int) - 1))) ?_))
                      rintro v492 w491 ⟨rfl, hE493⟩
                      exact ⟨rfl, hE493⟩
                    · intro L494 w495 hi496
                      have hE497 := hi496.ex
                      have hE497z := Ex.size hE497
                      obtain ⟨_, _, _, hx498, -, -, -, rfl⟩ := hi496.dep 4 33 rfl rfl
                      obtain ⟨_, _, _, hx499, -, -, -, rfl⟩ := hi496.dep 11 40 rfl rfl
                      exact OpR.want rfl rfl hx498 (not_t hb104) (Yl.sameI (yl_not rfl hx499 ⟨fun _ _ => rfl, rfl⟩))
                    · intro L500 w501 hi502
                      have hE503 := hi502.ex
                      have hE503z := Ex.size hE503
                      obtain ⟨_, _, _, hx504, -, -, -, rfl⟩ := hi502.dep 12 41 rfl rfl
                      obtain ⟨_, _, _, hx505, -, -, -, rfl⟩ := hi502.dep 4 33 rfl rfl
                      exact OpR.op' rfl (Yl.sameI (yl_pick_f rfl hx505 (not_t hb104) hx504 ⟨fun _ _ => rfl, rfl⟩))
                    · intro L506 w507 hi508
                      have hE509 := hi508.ex
                      have hE509z := Ex.size hE509
                      obtain ⟨_, _, _, hx510, -, -, -, rfl⟩ := hi508.dep 13 42 rfl rfl
                      exact OpR.op' rfl (Yl.sameI (yl_move rfl hx510 ⟨fun _ _ => rfl, rfl⟩))
                    · intro L511 w512 hi513
                      have hE514 := hi513.ex
                      have hE514z := Ex.size hE514
                      obtain ⟨_, _, _, hx515, -, -, -, rfl⟩ := hi513.dep 14 43 rfl rfl
                      have hx516 := hi513.old 4 _ rfl rfl
                      exact OpR.want rfl rfl hx515 (not_t hb109) (Yl.sameI (yl_fieldAddr Try.fd149_2 rfl hx516 ⟨fun _ _ => rfl, rfl⟩))
                    · intro L517 w518 hi519
                      have hE520 := hi519.ex
                      have hE520z := Ex.size hE520
                      obtain ⟨_, _, _, hx521, -, -, -, rfl⟩ := hi519.dep 14 43 rfl rfl
                      obtain ⟨_, _, _, hx522, -, -, -, rfl⟩ := hi519.dep 15 44 rfl rfl
                      have q523 := Box.ex hB101 hE520
                      exact OpR.want rfl rfl hx521 (not_t hb109) (Yl.sameI (yl_load1 Try.ty3 rfl hx522 ((q523.cell 2).trans rfl) ⟨fun _ _ => rfl, rfl⟩))
                    · intro L524 w525 hi526
                      have hE527 := hi526.ex
                      have hE527z := Ex.size hE527
                      obtain ⟨_, _, _, hx528, -, -, -, rfl⟩ := hi526.dep 14 43 rfl rfl
                      obtain ⟨_, _, _, hx529, -, -, -, rfl⟩ := hi526.dep 16 45 rfl rfl
                      refine OpR.want rfl rfl hx528 (not_t hb109) (yl_call Try.en50 rfl (opvs_cons hx529 (opvs_cons rfl (opvs_cons rfl opvs_nil))) (Cal.mono (c_s_l1In ((p_0.Idxs.getD k30 d_Idx).Stage) 0 3) ?_))
                      rintro v531 w530 ⟨rfl, hE532⟩
                      exact ⟨rfl, hE532⟩
                    · intro L533 w534 hi535
                      have hE536 := hi535.ex
                      have hE536z := Ex.size hE536
                      obtain ⟨_, _, _, hx537, -, -, -, rfl⟩ := hi535.dep 14 43 rfl rfl
                      obtain ⟨_, _, _, hx538, -, -, -, rfl⟩ := hi535.dep 17 46 rfl rfl
                      exact OpR.want rfl rfl hx537 (not_t hb109) (Yl.sameI (yl_not rfl hx538 ⟨fun _ _ => rfl, rfl⟩))
                    · intro L539 w540 hi541
                      have hE542 := hi541.ex
                      have hE542z := Ex.size hE542
                      obtain ⟨_, _, _, hx543, -, -, -, rfl⟩ := hi541.dep 18 47 rfl rfl
                      obtain ⟨_, _, _, hx544, -, -, -, rfl⟩ := hi541.dep 14 43 rfl rfl
                      exact OpR.op' rfl (Yl.sameI (yl_pick_f rfl hx544 (not_t hb109) hx543 ⟨fun _ _ => rfl, rfl⟩))
                    · intro L545 w546 hi547
                      have hE548 := hi547.ex
                      have hE548z := Ex.size hE548
                      obtain ⟨_, _, _, hx549, -, -, -, rfl⟩ := hi547.dep 19 48 rfl rfl
                      exact OpR.op' rfl (Yl.sameI (yl_move rfl hx549 ⟨fun _ _ => rfl, rfl⟩))
                    · intro L550 w551 hi552
                      have hE553 := hi552.ex
                      have hE553z := Ex.size hE553
                      obtain ⟨_, _, _, hx554, -, -, -, rfl⟩ := hi552.dep 20 49 rfl rfl
                      have hx555 := hi552.old 3 _ rfl rfl
                      exact OpR.want rfl rfl hx554 (not_t hb115) (Yl.sameI (yl_move rfl hx555 ⟨fun _ _ => rfl, rfl⟩))
                    · intro L556 w557 hi558
                      have hE559 := hi558.ex
                      have hE559z := Ex.size hE559
                      obtain ⟨_, _, _, hx560, -, -, -, rfl⟩ := hi558.dep 20 49 rfl rfl
                      obtain ⟨_, _, _, hx561, -, -, -, rfl⟩ := hi558.dep 21 50 rfl rfl
                      exact OpR.want rfl rfl hx560 (not_t hb115) (Yl.sameI (yl_gtr rfl hx561 rfl ⟨fun _ _ => rfl, rfl⟩))
                    · intro L562 w563 hi564
                      have hE565 := hi564.ex
                      have hE565z := Ex.size hE565
                      obtain ⟨_, _, _, hx566, -, -, -, rfl⟩ := hi564.dep 20 49 rfl rfl
                      obtain ⟨_, _, _, hx567, -, -, -, rfl⟩ := hi564.dep 22 51 rfl rfl
                      exact OpR.want rfl rfl hx566 (not_t hb115) (Yl.sameI (yl_move rfl hx567 ⟨fun _ _ => rfl, rfl⟩))
                    · intro L568 w569 hi570
                      have hE571 := hi570.ex
                      have hE571z := Ex.size hE571
                      obtain ⟨_, _, _, hx572, -, -, -, rfl⟩ := hi570.dep 23 52 rfl rfl
                      exact OpR.skip rfl rfl hx572 hb121 ⟨rfl, Ex.refl _⟩
                    · intro L573 w574 hi575
                      have hE576 := hi575.ex
                      have hE576z := Ex.size hE576
                      obtain ⟨_, _, _, hx577, -, -, -, rfl⟩ := hi575.dep 23 52 rfl rfl
                      exact OpR.skip rfl rfl hx577 hb121 ⟨rfl, Ex.refl _⟩
                    · intro L578 w579 hi580
                      have hE581 := hi580.ex
                      have hE581z := Ex.size hE581
                      obtain ⟨_, _, _, hx582, -, -, -, rfl⟩ := hi580.dep 23 52 rfl rfl
                      exact OpR.skip rfl rfl hx582 hb121 ⟨rfl, Ex.refl _⟩
                    · intro L583 w584 hi585
                      have hE586 := hi585.ex
                      have hE586z := Ex.size hE586
                      obtain ⟨_, _, _, hx587, -, -, -, rfl⟩ := hi585.dep 23 52 rfl rfl
                      exact OpR.skip rfl rfl hx587 hb121 ⟨rfl, Ex.refl _⟩
                    · intro L588 w589 hi590
                      have hE591 := hi590.ex
                      have hE591z := Ex.size hE591
                      obtain ⟨_, _, _, hx592, -, -, -, rfl⟩ := hi590.dep 23 52 rfl rfl
                      exact OpR.skip rfl rfl hx592 hb121 ⟨rfl, Ex.refl _⟩
                    · intro L593 w594 hi595
                      have hE596 := hi595.ex
                      have hE596z := Ex.size hE596
                      obtain ⟨_, _, _, hx597, -, -, -, rfl⟩ := hi595.dep 23 52 rfl rfl
                      exact OpR.skip rfl rfl hx597 hb121 ⟨rfl, Ex.refl _⟩
                    · intro L598 w599 hi600
                      have hE601 := hi600.ex
                      have hE601z := Ex.size hE601
                      obtain ⟨_, _, _, hx602, -, -, -, rfl⟩ := hi600.dep 23 52 rfl rfl
                      exact OpR.skip rfl rfl hx602 hb121 ⟨rfl, Ex.refl _⟩
                    · intro L603 w604 hi605
                      have hE606 := hi605.ex
                      have hE606z := Ex.size hE606
                      obtain ⟨_, _, _, hx607, -, -, -, rfl⟩ := hi605.dep 23 52 rfl rfl
                      exact OpR.skip rfl rfl hx607 hb121 ⟨rfl, Ex.refl _⟩
                    · intro L608 w609 hi610
                      have hE611 := hi610.ex
                      have hE611z := Ex.size hE611
                      obtain ⟨_, _, _, hx612, -, -, -, rfl⟩ := hi610.dep 23 52 rfl rfl
                      exact OpR.skip rfl rfl hx612 hb121 ⟨rfl, Ex.refl _⟩
                    · intro L613 w614 hi615
                      have hE616 := hi615.ex
                      have hE616z := Ex.size hE616
                      obtain ⟨_, _, _, hx617, -, -, -, rfl⟩ := hi615.dep 23 52 rfl rfl
                      exact OpR.skip rfl rfl hx617 hb121 ⟨rfl, Ex.refl _⟩
                    · intro L618 w619 hi620
                      have hE621 := hi620.ex
                      have hE621z := Ex.size hE621
                      obtain ⟨_, _, _, hx622, -, -, -, rfl⟩ := hi620.dep 20 49 rfl rfl
                      obtain ⟨_, _, _, hx623, -, -, -, rfl⟩ := hi620.dep 33 62 rfl rfl
                      obtain ⟨_, _, _, hx624, -, -, -, rfl⟩ := hi620.dep 23 52 rfl rfl
                      exact OpR.want rfl rfl hx622 (not_t hb115) (Yl.sameI (yl_pick_f rfl hx624 hb121 rfl ⟨fun _ _ => rfl, rfl⟩))
                    · intro L625 w626 hi627
                      have hE628 := hi627.ex
                      have hE628z := Ex.size hE628
                      obtain ⟨_, _, _, hx629, -, -, -, rfl⟩ := hi627.dep 34 63 rfl rfl
                      obtain ⟨_, _, _, hx630, -, -, -, rfl⟩ := hi627.dep 20 49 rfl rfl
                      exact OpR.op' rfl (Yl.sameI (yl_pick_f rfl hx630 (not_t hb115) hx629 ⟨fun _ _ => rfl, rfl⟩))
                    · intro fl634 fh635 L631 w632 hp633
                      have hE636 := hp633.ex
                      have hE636z := Ex.size hE636
                      have hx637 := hp633.old 1 _ rfl rfl
                      have hx638 := hp633.old 22 _ rfl rfl
                      have hx639 := hp633.old 23 _ rfl rfl
                      have hx640 := hp633.old 24 _ rfl rfl
                      obtain ⟨_, hx641, rfl⟩ := hp633.new 5 34 rfl rfl
                      obtain ⟨_, hx642, rfl⟩ := hp633.new 6 35 rfl rfl
                      obtain ⟨_, hx643, rfl⟩ := hp633.new 7 36 rfl rfl
                      obtain ⟨_, hx644, rfl⟩ := hp633.new 8 37 rfl rfl
                      obtain ⟨_, hx645, rfl⟩ := hp633.new 9 38 rfl rfl
                      obtain ⟨_, hx646, rfl⟩ := hp633.new 10 39 rfl rfl
                      obtain ⟨_, hx647, rfl⟩ := hp633.new 11 40 rfl rfl
                      obtain ⟨_, hx648, rfl⟩ := hp633.new 12 41 rfl rfl
                      obtain ⟨_, hx649, rfl⟩ := hp633.new 15 44 rfl rfl
                      obtain ⟨_, hx650, rfl⟩ := hp633.new 16 45 rfl rfl
                      obtain ⟨_, hx651, rfl⟩ := hp633.new 17 46 rfl rfl
                      obtain ⟨_, hx652, rfl⟩ := hp633.new 18 47 rfl rfl
                      obtain ⟨_, hx653, rfl⟩ := hp633.new 21 50 rfl rfl
                      obtain ⟨_, hx654, rfl⟩ := hp633.new 22 51 rfl rfl
                      obtain ⟨_, hx655, rfl⟩ := hp633.new 23 52 rfl rfl
                      obtain ⟨_, hx656, rfl⟩ := hp633.new 24 53 rfl rfl
                      obtain ⟨_, hx657, rfl⟩ := hp633.new 25 54 rfl rfl
                      obtain ⟨_, hx658, rfl⟩ := hp633.new 26 55 rfl rfl
                      obtain ⟨_, hx659, rfl⟩ := hp633.new 27 56 rfl rfl
                      obtain ⟨_, hx660, rfl⟩ := hp633.new 28 57 rfl rfl
                      obtain ⟨_, hx661, rfl⟩ := hp633.new 29 58 rfl rfl
                      obtain ⟨_, hx662, rfl⟩ := hp633.new 30 59 rfl rfl
                      obtain ⟨_, hx663, rfl⟩ := hp633.new 31 60 rfl rfl
                      obtain ⟨_, hx664, rfl⟩ := hp633.new 32 61 rfl rfl
                      obtain ⟨_, hx665, rfl⟩ := hp633.new 33 62 rfl rfl
                      obtain ⟨_, hx666, rfl⟩ := hp633.new 34 63 rfl rfl
                      obtain ⟨_, hx667, rfl⟩ := hp633.new 35 64 rfl rfl
                      refine SeqR.done ?_
                      refine tn ?_
                      refine CW.sub (Sub.cons (d := 1) hx637 (Sub.cons (d := 22) hx638 (Sub.cons (d := 23) hx639 (Sub.cons (d := 24) hx640 (Sub.cons (d := 34) hx641 (Sub.cons (d := 35) hx642 (Sub.cons (d := 36) hx643 (Sub.cons (d := 37) hx644 (Sub.cons (d := 38) hx645 (Sub.cons (d := 39) hx646 (Sub.cons (d := 40) hx647 (Sub.cons (d := 41) hx648 (Sub.cons (d := 44) hx649 (Sub.cons (d := 45) hx650 (Sub.cons (d := 46) hx651 (Sub.cons (d := 47) hx652 (Sub.cons (d := 50) hx653 (Sub.cons (d := 51) hx654 (Sub.cons (d := 52) hx655 (Sub.cons (d := 53) hx656 (Sub.cons (d := 54) hx657 (Sub.cons (d := 55) hx658 (Sub.cons (d := 56) hx659 (Sub.cons (d := 57) hx660 (Sub.cons (d := 58) hx661 (Sub.cons (d := 59) hx662 (Sub.cons (d := 60) hx663 (Sub.cons (d := 61) hx664 (Sub.cons (d := 62) hx665 (Sub.cons (d := 63) hx666 (Sub.cons (d := 64) hx667 (Sub.nil _)))))))))))))))))))))))))))))))) ?_
                      refine CW.cond_f rfl rfl ?_
                      refine CW.skip ?_
                      refine bn ?_
                      refine tn ?_
                      refine CW.region ?_
                      refine SeqR.d1 rfl rfl rfl (yl_inc rfl rfl rfl (by omega) ?_)
                      refine SeqR.d1 rfl rfl rfl (yl_move rfl rfl ?_)
                      refine SeqR.done ?_
                      refine tn ?_
                      have hB668 : B_s_GoodTable_0 p_0 k30 () = .cont () := by simp only [B_s_GoodTable_0, hb16, hb23, hb25, hb104, hb109, hb115, hb121, cond_true, cond_false, loopE_done, loopE_ret]
                      have q669 := Box.ex q414 hE636
                      have q670 := RdS.ex good_Str hf88 hE99
                      have q671 := RdS.only good_Str q670 hO102 (by simp only [Iv]; omega)
                      have q672 := RdS.ex good_Str q671 hE636
                      have q673 := RdS.ex good_Idx hf89 hE99
                      have q674 := RdS.only good_Idx q673 hO102 (by simp only [Iv]; omega)
                      have q675 := RdS.ex good_Idx q674 hE636
                      have q676 := Ex.trans hf90 hE99
                      have q677 := Below.only q676 hO102 (by omega)
                      have q678 := Ex.trans q677 hE636
                      exact ⟨p_0.Idxs.length - (k30 + 1), by omega, k30 + 1, rfl, hlt92, rfl, rfl, rfl, rfl, q669, q672, q675, q678, (loopM.cont hlt92 hB668).symm.trans hI82⟩
                · skip
                  have q680 := Box.ex hf87 hE99
                  have q681 := Box.only q680 hO102 (by omega)
                  refine CW.drawsI 36 (vgetI [DetI (.pointer (some ⟨b94, 0 + 0, none⟩)), DetI (.string (bs ((p_0.Idxs.getD k30 d_Idx).Name))), DetI (.bool ((s_l24Letters ((p_0.Idxs.getD k30 d_Idx).Name) 1))), DetI (.bool (!(s_l24Letters ((p_0.Idxs.getD k30 d_Idx).Name) 1))), DetI (.bool (!(s_l24Letters ((p_0.Idxs.getD k30 d_Idx).Name) 1))), DetI (.pointer (some ⟨b94, 0 + 1, none⟩)), DetI (.int .i64 ((p_0.Idxs.getD k30 d_Idx).Col)), DetI (.pointer (some ⟨b7, 0 + 1, none⟩)), DetI (.slice A1 p_0.Cols.length c1), DetI (.int .i64 ((p_0.Cols.length : Int))), DetI (.int .i64 (IntKind.wrap .i64 ((p_0.Cols.length : Int) - 1))), DetI (.bool ((s_l1In ((p_0.Idxs.getD k30 d_Idx).Col) 1 (IntKind.wrap .i64 ((p_0.Cols.length : Int) - 1))))), DetI (.bool (!(s_l1In ((p_0.Idxs.getD k30 d_Idx).Col) 1 (IntKind.wrap .i64 ((p_0.Cols.length : Int) - 1))))), DetI (.bool (!(s_l1In ((p_0.Idxs.getD k30 d_Idx).Col) 1 (IntKind.wrap .i64 ((p_0.Cols.length : Int) - 1))))), DetI (.bool (!(s_l1In ((p_0.Idxs.getD k30 d_Idx).Col) 1 (IntKind.wrap .i64 ((p_0.Cols.length : Int) - 1))))), DetI (.pointer (some ⟨b94, 0 + 2, none⟩)), DetI (.int .i64 ((p_0.Idxs.getD k30 d_Idx).Stage)), DetI (.bool ((s_l1In ((p_0.Idxs.getD k30 d_Idx).Stage) 0 3))), DetI (.bool (!(s_l1In ((p_0.Idxs.getD k30 d_Idx).Stage) 0 3))), DetI (.bool (!(s_l1In ((p_0.Idxs.getD k30 d_Idx).Stage) 0 3))), DetI (.bool (!(s_l1In ((p_0.Idxs.getD k30 d_Idx).Stage) 0 3))), DetI (undef), DetI (undef), DetI (undef), DetI (undef), DetI (undef), DetI (undef), DetI (undef), DetI (undef), DetI (undef), DetI (undef), DetI (undef), DetI (undef), DetI (undef), DetI (undef), DetI (.bool (true))]) Try.follows rfl rfl rfl rfl rfl rfl (vgetI_stable ⟨StableI.det _, StableI.det _, StableI.det _, StableI.det _, StableI.det _, StableI.det _, StableI.det _, StableI.det _, StableI.det _, StableI.det _, StableI.det _, StableI.det _, StableI.det _, StableI.det _, StableI.det _, StableI.det _, StableI.det _, StableI.det _, StableI.det _, StableI.det _, StableI.det _, StableI.det _, StableI.det _, StableI.det _, StableI.det _, StableI.det _, StableI.det _, StableI.det _, StableI.det _, StableI.det _, StableI.det _, StableI.det _, StableI.det _, StableI.det _, StableI.det _, StableI.det _, trivial⟩) ⟨?_, ?_, ?_, ?_, ?_, ?_, ?_, ?_, ?_, ?_, ?_, ?_, ?_, ?_, ?_, ?_, ?_, ?_, ?_, ?_, ?_, ?_, ?_, ?_, ?_, ?_, ?_, ?_, ?_, ?_, ?_, ?_, ?_, ?_, ?_, ?_, trivial⟩ ?_
                  · intro L684 w685 hi686
                    have hE687 := hi686.ex
                    have hE687z := Ex.size hE687
                    have hx688 := hi686.old 4 _ rfl rfl
                    exact OpR.op' rfl (Yl.sameI (yl_fieldAddr Try.fd149_0 rfl hx688 ⟨fun _ _ => rfl, rfl⟩))
                  · intro L689 w690 hi691
                    have hE692 := hi691.ex
                    have hE692z := Ex.size hE692
                    obtain ⟨_, _, _, hx693, -, -, -, rfl⟩ := hi691.dep 0 29 rfl rfl
                    have q694 := Box.ex hB101 hE692
                    exact OpR.op' rfl (Yl.sameI (yl_load1 Try.ty9 rfl hx693 ((q694.cell 0).trans rfl) ⟨fun _ _ => rfl, rfl⟩))
                  · intro L695 w696 hi697
                    have hE698 := hi697.ex
                    have hE698z := Ex.size hE698
                    obtain ⟨_, _, _, hx699, -, -, -, rfl⟩ := hi697.dep 1 30 rfl rfl
                    refine OpR.op' rfl (yl_call Try.en116 rfl (opvs_cons hx699 (opvs_cons rfl opvs_nil)) (Cal.mono (c_s_l24Letters ((p_0.Idxs.getD k30 d_Idx).Name) 1 (okL.getD o3.2.2 ok_d_Idx _)) ?_))
                    rintro v701 w700 ⟨rfl, hE702⟩
                    exact ⟨rfl, hE702⟩
                  · intro L703 w704 hi705
                    have hE706 := hi705.ex
                    have hE706z := Ex.size hE706
                    obtain ⟨_, _, _, hx707, -, -, -, rfl⟩ := hi705.dep 2 31 rfl rfl
                    exact OpR.op' rfl (Yl.sameI (yl_not rfl hx707 ⟨fun _ _ => rfl, rfl⟩))
                  · intro L708 w709 hi710
                    have hE711 := hi710.ex
                    have hE711z := Ex.size hE711
                    obtain ⟨_, _, _, hx712, -, -, -, rfl⟩ := hi710.dep 3 32 rfl rfl
                    exact OpR.op' rfl (Yl.sameI (yl_move rfl hx712 ⟨fun _ _ => rfl, rfl⟩))
                  · intro L713 w714 hi715
                    have hE716 := hi715.ex
                    have hE716z := Ex.size hE716
                    obtain ⟨_, _, _, hx717, -, -, -, rfl⟩ := hi715.dep 4 33 rfl rfl
                    have hx718 := hi715.old 4 _ rfl rfl
                    exact OpR.want rfl rfl hx717 (not_t hb104) (Yl.sameI (yl_fieldAddr Try.fd149_1 rfl hx718 ⟨fun _ _ => rfl, rfl⟩))
                  · intro L719 w720 hi721
                    have hE722 := hi721.ex
                    have hE722z := Ex.size hE722
                    obtain ⟨_, _, _, hx723, -, -, -, rfl⟩ := hi721.dep 4 33 rfl rfl
                    obtain ⟨_, _, _, hx724, -, -, -, rfl⟩ := hi721.dep 5 34 rfl rfl
                    have q725 := Box.ex hB101 hE722
                    exact OpR.want rfl rfl hx723 (not_t hb104) (Yl.sameI (yl_load1 Try.ty3 rfl hx724 ((q725.cell 1).trans rfl) ⟨fun _ _ => rfl, rfl⟩))
                  · intro L726 w727 hi728
                    have hE729 := hi728.ex
                    have hE729z := Ex.size hE729
                    obtain ⟨_, _, _, hx730, -, -, -, rfl⟩ := hi728.dep 4 33 rfl rfl
                    have hx731 := hi728.old 1 _ rfl rfl
                    exact OpR.want rfl rfl hx730 (not_t hb104) (Yl.sameI (yl_fieldAddr Try.fd84_1 rfl hx731 ⟨fun _ _ => rfl, rfl⟩))
                  · intro L732 w733 hi734
                    have hE735 := hi734.ex
                    have hE735z := Ex.size hE735
                    obtain ⟨_, _, _, hx736, -, -, -, rfl⟩ := hi734.dep 4 33 rfl rfl
                    obtain ⟨_, _, _, hx737, -, -, -, rfl⟩ := hi734.dep 7 36 rfl rfl
                    have q738 := Box.ex q681 hE735
                    exact OpR.want rfl rfl hx736 (not_t hb104) (Yl.sameI (yl_load1 Try.ty73 rfl hx737 ((q738.cell 1).trans rfl) ⟨fun _ _ => rfl, rfl⟩))
                  · intro L739 w740 hi741
                    have hE742 := hi741.ex
                    have hE742z := Ex.size hE742
                    obtain ⟨_, _, _, hx743, -, -, -, rfl⟩ := hi741.dep 4 33 rfl rfl
                    obtain ⟨_, _, _, hx744, -, -, -, rfl⟩ := hi741.dep 8 37 rfl rfl
                    exact OpR.want rfl rfl hx743 (not_t hb104) (Yl.sameI (yl_len Try.un73 rfl hx744 ⟨fun _ _ => rfl, rfl⟩))
                  · intro L745 w746 hi747
                    have hE748 := hi747.ex
                    have hE748z := Ex.size hE748
                    obtain ⟨_, _, _, hx749, -, -, -, rfl⟩ := hi747.dep 4 33 rfl rfl
                    obtain ⟨_, _, _, hx750, -, -, -, rfl⟩ := hi747.dep 9 38 rfl rfl
                    exact OpR.want rfl rfl hx749 (not_t hb104) (Yl.sameI (yl_sub rfl hx750 rfl ⟨fun _ _ => rfl, rfl⟩))
                  · intro L751 w752 hi753
                    have hE754 := hi753.ex
                    have hE754z := Ex.size hE754
                    obtain ⟨_, _, _, hx755, -, -, -, rfl⟩ := hi753.dep 4 33 rfl rfl
                    obtain ⟨_, _, _, hx756, -, -, -, rfl⟩ := hi753.dep 6 35 rfl rfl
                    obtain ⟨_, _, _, hx757, -, -, -, rfl⟩ := hi753.dep 10 39 rfl rfl
                    refine OpR.want rfl rfl hx755 (not_t hb104) (yl_call Try.en50 rfl (opvs_cons hx756 (opvs_cons rfl (opvs_cons hx757 opvs_nil))) (Cal.mono (c_s_l1In ((p_0.Idxs.getD k30 d_Idx).Col) 1 (IntKind.wrap .i64 ((p_0.Cols.length : Int) - 1))) ?_))
                    rintro v759 w758 ⟨rfl, hE760⟩
                    exact ⟨rfl, hE760⟩
                  · intro L761 w762 hi763
                    have hE764 := hi763.ex
                    have hE764z := Ex.size hE764
                    obtain ⟨_, _, _, hx765, -, -, -, rfl⟩ := hi763.dep 4 33 rfl rfl
                    obtain ⟨_, _, _, hx766, -, -, -, rfl⟩ := hi763.dep 11 40 rfl rfl
                    exact OpR.want rfl rfl hx765 (not_t hb104) (Yl.sameI (yl_not rfl hx766 ⟨fun _ _ => rfl, rfl⟩))
                  · intro L767 w768 hi769
                    have hE770 := hi769.ex
                    have hE770z := Ex.size hE770
                    obtain ⟨_, _, _, hx771, -, -, -, rfl⟩ := hi769.dep 12 41 rfl rfl
                    obtain ⟨_, _, _, hx772, -, -, -, rfl⟩ := hi769.dep 4 33 rfl rfl
                    exact OpR.op' rfl (Yl.sameI (yl_pick_f rfl hx772 (not_t hb104) hx771 ⟨fun _ _ => rfl, rfl⟩))
                  · intro L773 w774 hi775
                    have hE776 := hi775.ex
                    have hE776z := Ex.size hE776
                    obtain ⟨_, _, _, hx777, -, -, -, rfl⟩ := hi775.dep 13 42 rfl rfl
                    exact OpR.op' rfl (Yl.sameI (yl_move rfl hx777 ⟨fun _ _ => rfl, rfl⟩))
                  · intro L778 w779 hi780
                    have hE781 := hi780.ex
                    have hE781z := Ex.size hE781
                    obtain ⟨_, _, _, hx782, -, -, -, rfl⟩ := hi780.dep 14 43 rfl rfl
                    have hx783 := hi780.old 4 _ rfl rfl
                    exact OpR.want rfl rfl hx782 (not_t hb109) (Yl.sameI (yl_fieldAddr Try.fd149_2 rfl hx783 ⟨fun _ _ => rfl, rfl⟩))
                  · intro L784 w785 hi786
                    have hE787 := hi786.ex
                    have hE787z := Ex.size hE787
                    obtain ⟨_, _, _, hx788, -, -, -, rfl⟩ := hi786.dep 14 43 rfl rfl
                    obtain ⟨_, _, _, hx789, -, -, -, rfl⟩ := hi786.dep 15 44 rfl rfl
                    have q790 := Box.ex hB101 hE787
                    exact OpR.want rfl rfl hx788 (not_t hb109) (Yl.sameI (yl_load1 Try.ty3 rfl hx789 ((q790.cell 2).trans rfl) ⟨fun _ _ => rfl, rfl⟩))
                  · intro L791 w792 hi793
                    have hE794 := hi793.ex
                    have hE794z := Ex.size hE794
                    obtain ⟨_, _, _, hx795, -, -, -, rfl⟩ := hi793.dep 14 43 rfl rfl
                    obtain ⟨_, _, _, hx796, -, -, -, rfl⟩ := hi793.dep 16 45 rfl rfl
                    refine OpR.want rfl rfl hx795 (not_t hb109) (yl_call Try.en50 rfl (opvs_cons hx796 (opvs_cons rfl (opvs_cons rfl opvs_nil))) (Cal.mono (c_s_l1In ((p_0.Idxs.getD k30 d_Idx).Stage) 0 3) ?_))
                    rintro v798 w797 ⟨rfl, hE799⟩
                    exact ⟨rfl, hE799⟩
                  · intro L800 w801 hi802
                    have hE803 := hi802.ex
                    have hE803z := Ex.size hE803
                    obtain ⟨_, _, _, hx804, -, -, -, rfl⟩ := hi802.dep 14 43 rfl rfl
                    obtain ⟨_, _, _, hx805, -, -, -, rfl⟩ := hi802.dep 17 46 rfl rfl
                    exact OpR.want rfl rfl hx804 (not_t hb109) (Yl.sameI (yl_not rfl hx805 ⟨fun _ _ => rfl, rfl⟩))
                  · intro L806 w807 hi808
                    have hE809 := hi808.ex
                    have hE809z := Ex.size hE809
                    obtain ⟨_, _, _, hx810, -, -, -, rfl⟩ := hi808.dep 18 47 rfl rfl
                    obtain ⟨_, _, _, hx811, -, -, -, rfl⟩ := hi808.dep 14 43 rfl rfl
                    exact OpR.op' rfl (Yl.sameI (yl_pick_f rfl hx811 (not_t hb109) hx810 ⟨fun _ _ => rfl, rfl⟩))
                  · intro L812 w813 hi814
                    have hE815 := hi814.ex
                    have hE815z := Ex.size hE815
                    obtain ⟨_, _, _, hx816, -, -, -, rfl⟩ := hi814.dep 19 48 rfl rfl
                    exact OpR.op' rfl (Yl.sameI (yl_move rfl hx816 ⟨fun _ _ => rfl, rfl⟩))
                  · intro L817 w818 hi819
                    have hE820 := hi819.ex
                    have hE820z := Ex.size hE820
                    obtain ⟨_, _, _, hx821, -, -, -, rfl⟩ := hi819.dep 20 49 rfl rfl
                    exact OpR.skip rfl rfl hx821 (not_f hb115) ⟨rfl, Ex.refl _⟩
                  · intro L822 w823 hi824
                    have hE825 := hi824.ex
                    have hE825z := Ex.size hE825
                    obtain ⟨_, _, _, hx826, -, -, -, rfl⟩ := hi824.dep 20 49 rfl rfl
                    exact OpR.skip rfl rfl hx826 (not_f hb115) ⟨rfl, Ex.refl _⟩
                  · intro L827 w828 hi829
                    have hE830 := hi829.ex
                    have hE830z := Ex.size hE830
                    obtain ⟨_, _, _, hx831, -, -, -, rfl⟩ := hi829.dep 20 49 rfl rfl
                    exact OpR.skip rfl rfl hx831 (not_f hb115) ⟨rfl, Ex.refl _⟩
                  · intro L832 w833 hi834
                    have hE835 := hi834.ex
                    have hE835z := Ex.size hE835
                    obtain ⟨_, _, _, hx836, -, -, -, rfl⟩ := hi834.dep 23 52 rfl rfl
                    exact OpR.undef rfl rfl hx836 ⟨rfl, Ex.refl _⟩
                  · intro L837 w838 hi839
                    have hE840 := hi839.ex
                    have hE840z := Ex.size hE840
                    obtain ⟨_, _, _, hx841, -, -, -, rfl⟩ := hi839.dep 23 52 rfl rfl
                    exact OpR.undef rfl rfl hx841 ⟨rfl, Ex.refl _⟩
                  · intro L842 w843 hi844
                    have hE845 := hi844.ex
                    have hE845z := Ex.size hE845
                    obtain ⟨_, _, _, hx846, -, -, -, rfl⟩ := hi844.dep 23 52 rfl rfl
                    exact OpR.undef rfl rfl hx846 ⟨rfl, Ex.refl _⟩
                  · intro L847 w848 hi849
                    have hE850 := hi849.ex
                    have hE850z := Ex.size hE850
                    obtain ⟨_, _, _, hx851, -, -, -, rfl⟩ := hi849.dep 23 52 rfl rfl
                    exact OpR.undef rfl rfl hx851 ⟨rfl, Ex.refl _⟩
                  · intro L852 w853 hi854
                    have hE855 := hi854.ex
                    have hE855z := Ex.size hE855
                    obtain ⟨_, _, _, hx856, -, -, -, rfl⟩ := hi854.dep 23 52 rfl rfl
                    exact OpR.undef rfl rfl hx856 ⟨rfl, Ex.refl _⟩
                  · intro L857 w858 hi859
                    have hE860 := hi859.ex
                    have hE860z := Ex.size hE860
                    obtain ⟨_, _, _, hx861, -, -, -, rfl⟩ := hi859.dep 23 52 rfl rfl
                    exact OpR.undef rfl rfl hx861 ⟨rfl, Ex.refl _⟩
                  · intro L862 w863 hi864
                    have hE865 := hi864.ex
                    have hE865z := Ex.size hE865
                    obtain ⟨_, _, _, hx866, -, -, -, rfl⟩ := hi864.dep 23 52 rfl rfl
                    exact OpR.undef rfl rfl hx866 ⟨rfl, Ex.refl _⟩
                  · intro L867 w868 hi869
                    have hE870 := hi869.ex
                    have hE870z := Ex.size hE870
                    obtain ⟨_, _, _, hx871, -, -, -, rfl⟩ := hi869.dep 23 52 rfl rfl
                    exact OpR.undef rfl rfl hx871 ⟨rfl, Ex.refl _⟩
                  · intro L872 w873 hi874
                    have hE875 := hi874.ex
                    have hE875z := Ex.size hE875
                    obtain ⟨_, _, _, hx876, -, -, -, rfl⟩ := hi874.dep 23 52 rfl rfl
                    exact OpR.undef rfl rfl hx876 ⟨rfl, Ex.refl _⟩
                  · intro L877 w878 hi879
                    have hE880 := hi879.ex
                    have hE880z := Ex.size hE880
                    obtain ⟨_, _, _, hx881, -, -, -, rfl⟩ := hi879.dep 23 52 rfl rfl
                    exact OpR.undef rfl rfl hx881 ⟨rfl, Ex.refl _⟩
                  · intro L882 w883 hi884
                    have hE885 := hi884.ex
                    have hE885z := Ex.size hE885
                    obtain ⟨_, _, _, hx886, -, -, -, rfl⟩ := hi884.dep 20 49 rfl rfl
                    exact OpR.skip rfl rfl hx886 (not_f hb115) ⟨rfl, Ex.refl _⟩
                  · intro L887 w888 hi889
                    have hE890 := hi889.ex
                    have hE890z := Ex.size hE890
                    obtain ⟨_, _, _, hx891, -, -, -, rfl⟩ := hi889.dep 34 63 rfl rfl
                    obtain ⟨_, _, _, hx892, -, -, -, rfl⟩ := hi889.dep 20 49 rfl rfl
                    exact OpR.op' rfl (Yl.sameI (yl_pick_t rfl hx892 (not_f hb115) rfl ⟨fun _ _ => rfl, rfl⟩))
                  · intro fl896 fh897 L893 w894 hp895
                    have hE898 := hp895.ex
                    have hE898z := Ex.size hE898
                    have hx899 := hp895.old 1 _ rfl rfl
                    have hx900 := hp895.old 22 _ rfl rfl
                    have hx901 := hp895.old 23 _ rfl rfl
                    have hx902 := hp895.old 24 _ rfl rfl
                    obtain ⟨_, hx903, rfl⟩ := hp895.new 5 34 rfl rfl
                    obtain ⟨_, hx904, rfl⟩ := hp895.new 6 35 rfl rfl
                    obtain ⟨_, hx905, rfl⟩ := hp895.new 7 36 rfl rfl
                    obtain ⟨_, hx906, rfl⟩ := hp895.new 8 37 rfl rfl
                    obtain ⟨_, hx907, rfl⟩ := hp895.new 9 38 rfl rfl
                    obtain ⟨_, hx908, rfl⟩ := hp895.new 10 39 rfl rfl
                    obtain ⟨_, hx909, rfl⟩ := hp895.new 11 40 rfl rfl
                    obtain ⟨_, hx910, rfl⟩ := hp895.new 12 41 rfl rfl
                    obtain ⟨_, hx911, rfl⟩ := hp895.new 15 44 rfl rfl
                    obtain ⟨_, hx912, rfl⟩ := hp895.new 16 45 rfl rfl
                    obtain ⟨_, hx913, rfl⟩ := hp895.new 17 46 rfl rfl
                    obtain ⟨_, hx914, rfl⟩ := hp895.new 18 47 rfl rfl
                    obtain ⟨_, hx915, rfl⟩ := hp895.new 21 50 rfl rfl
                    obtain ⟨_, hx916, rfl⟩ := hp895.new 22 51 rfl rfl
                    obtain ⟨_, hx917, rfl⟩ := hp895.new 23 52 rfl rfl
                    obtain ⟨_, hx918, rfl⟩ := hp895.new 24 53 rfl rfl
                    obtain ⟨_, hx919, rfl⟩ := hp895.new 25 54 rfl rfl
                    obtain ⟨_, hx920, rfl⟩ := hp895.new 26 55 rfl rfl
                    obtain ⟨_, hx921, rfl⟩ := hp895.new 27 56 rfl rfl
                    obtain ⟨_, hx922, rfl⟩ := hp895.new 28 57 rfl rfl
                    obtain ⟨_, hx923, rfl⟩ := hp895.new 29 58 rfl rfl
                    obtain ⟨_, hx924, rfl⟩ := hp895.new 30 59 rfl rfl
                    obtain ⟨_, hx925, rfl⟩ := hp895.new 31 60 rfl rfl
                    obtain ⟨_, hx926, rfl⟩ := hp895.new 32 61 rfl rfl
                    obtain ⟨_, hx927, rfl⟩ := hp895.new 33 62 rfl rfl
                    obtain ⟨_, hx928, rfl⟩ := hp895.new 34 63 rfl rfl
                    obtain ⟨_, hx929, rfl⟩ := hp895.new 35 64 rfl rfl
                    refine SeqR.done ?_
                    refine tn ?_
                    refine CW.sub (Sub.cons (d := 1) hx899 (Sub.cons (d := 22) hx900 (Sub.cons (d := 23) hx901 (Sub.cons (d := 24) hx902 (Sub.cons (d := 34) hx903 (Sub.cons (d := 35) hx904 (Sub.cons (d := 36) hx905 (Sub.cons (d := 37) hx906 (Sub.cons (d := 38) hx907 (Sub.cons (d := 39) hx908 (Sub.cons (d := 40) hx909 (Sub.cons (d := 41) hx910 (Sub.cons (d := 44) hx911 (Sub.cons (d := 45) hx912 (Sub.cons (d := 46) hx913 (Sub.cons (d := 47) hx914 (Sub.cons (d := 50) hx915 (Sub.cons (d := 51) hx916 (Sub.cons (d := 52) hx917 (Sub.cons (d := 53) hx918 (Sub.cons (d := 54) hx919 (Sub.cons (d := 55) hx920 (Sub.cons (d := 56) hx921 (Sub.cons (d := 57) hx922 (Sub.cons (d := 58) hx923 (Sub.cons (d := 59) hx924 (Sub.cons (d := 60) hx925 (Sub.cons (d := 61) hx926 (Sub.cons (d := 62) hx927 (Sub.cons (d := 63) hx928 (Sub.cons (d := 64) hx929 (Sub.nil _)))))))))))))))))))))))))))))))) ?_
                    refine CW.cond_t rfl rfl ?_
                    refine CW.seq ?_
                    refine CW.region ?_
                    refine SeqR.d1 rfl rfl rfl (yl_assign rfl rfl ?_)
                    refine SeqR.done ?_
                    refine tn ?_
                    refine CW.ret ?_
                    refine br ?_
                    refine tr ?_
                    refine tr ?_
                    have hB931 : B_s_GoodTable_0 p_0 k30 () = .ret false := by simp only [B_s_GoodTable_0, hb16, hb23, hb25, hb104, hb109, hb115, cond_true, cond_false, loopE_done, loopE_ret]
                    have hL930 : loopM (B_s_GoodTable_0 p_0) (p_0.Idxs.length - 0) 0 () = .ret false := hI82.symm.trans (loopM.ret hlt92 hB931)
                    refine br ?_
                    refine tr ?_
                    refine rr rfl (.cons rfl .nil) ?_
                    have hM932 : (s_GoodTable p_0) = (false) := by simp only [s_GoodTable, hb16, hb23, hb25, hb104, hb109, hb115, hL930, cond_true, cond_false, loopE_done, loopE_ret]
                    rw [hM932]
                    have q933 := Ex.trans hf90 hE99
                    have q934 := Below.only q933 hO102 (by omega)
                    have q935 := Ex.trans q934 hE898
                    exact ⟨rfl, q935⟩
              · skip
                have q937 := Box.ex hf87 hE99
                have q938 := Box.only q937 hO102 (by omega)
                refine CW.drawsI 36 (vgetI [DetI (.pointer (some ⟨b94, 0 + 0, none⟩)), DetI (.string (bs ((p_0.Idxs.getD k30 d_Idx).Name))), DetI (.bool ((s_l24Letters ((p_0.Idxs.getD k30 d_Idx).Name) 1))), DetI (.bool (!(s_l24Letters ((p_0.Idxs.getD k30 d_Idx).Name) 1))), DetI (.bool (!(s_l24Letters ((p_0.Idxs.getD k30 d_Idx).Name) 1))), DetI (.pointer (some ⟨b94, 0 + 1, none⟩)), DetI (.int .i64 ((p_0.Idxs.getD k30 d_Idx).Col)), DetI (.pointer (some ⟨b7, 0 + 1, none⟩)), DetI (.slice A1 p_0.Cols.length c1), DetI (.int .i64 ((p_0.Cols.length : Int))), DetI (.int .i64 (IntKind.wrap .i64 ((p_0.Cols.length : Int) - 1))), DetI (.bool ((s_l1In ((p_0.Idxs.getD k30 d_Idx).Col) 1 (IntKind.wrap .i64 ((p_0.Cols.length : Int) - 1))))), DetI (.bool (!(s_l1In ((p_0.Idxs.getD k30 d_Idx).Col) 1 (IntKind.wrap .i64 ((p_0.Cols.length : Int) - 1))))), DetI (.bool (!(s_l1In ((p_0.Idxs.getD k30 d_Idx).Col) 1 (IntKind.wrap .i64 ((p_0.Cols.length : Int) - 1))))), DetI (.bool (!(s_l1In ((p_0.Idxs.getD k30 d_Idx).Col) 1 (IntKind.wrap .i64 ((p_0.Cols.length : Int) - 1))))), DetI (undef), DetI (undef), DetI (undef), DetI (undef), DetI (.bool (true)), DetI (.bool (true)), DetI (undef), DetI (undef), DetI (undef), DetI (undef), DetI (undef), DetI (undef), DetI (undef), DetI (undef), DetI (undef), DetI (undef), DetI (undef), DetI (undef), DetI (undef), DetI (undef), DetI (.bool (true))]) Try.follows rfl rfl rfl rfl rfl rfl (vgetI_stable ⟨StableI.det _, StableI.det _, StableI.det _, StableI.det _, StableI.det _, StableI.det _, StableI.det _, StableI.det _, StableI.det _, StableI.det _, StableI.det _, StableI.det _, StableI.det _, StableI.det _, StableI.det _, StableI.det _, StableI.det _, StableI.det _, StableI.det _, StableI.det _, StableI.det _, StableI.det _, StableI.det _, StableI.det _, StableI.det _, StableI.det _, StableI.det _, StableI.det _, StableI.det _, StableI.det _, StableI.det _, StableI.det _, StableI.det _, StableI.det _, StableI.det _, StableI.det _, trivial⟩) ⟨?_, ?_, ?_, ?_, ?_, ?_, ?_, ?_, ?_, ?_, ?_, ?_, ?_, ?_, ?_, ?_, ?_, ?_, ?_, ?_, ?_, ?_, ?_, ?_, ?_, ?_, ?_, ?_, ?_, ?_, ?_, ?_, ?_, ?_, ?_, ?_, trivial⟩ ?_
                · intro L940 w941 hi942
                  have hE943 := hi942.ex
                  have hE943z := Ex.size hE943
                  have hx944 := hi942.old 4 _ rfl rfl
                  exact OpR.op' rfl (Yl.sameI (yl_fieldAddr Try.fd149_0 rfl hx944 ⟨fun _ _ => rfl, rfl⟩))
                · intro L945 w946 hi947
                  have hE948 := hi947.ex
                  have hE948z := Ex.size hE948
                  obtain ⟨_, _, _, hx949, -, -, -, rfl⟩ := hi947.dep 0 29 rfl rfl
                  have q950 := Box.ex hB101 hE948
                  exact OpR.op' rfl (Yl.sameI (yl_load1 Try.ty9 rfl hx949 ((q950.cell 0).trans rfl) ⟨fun _ _ => rfl, rfl⟩))
                · intro L951 w952 hi953
                  have hE954 := hi953.ex
                  have hE954z := Ex.size hE954
                  obtain ⟨_, _, _, hx955, -, -, -, rfl⟩ := hi953.dep 1 30 rfl rfl
                  refine OpR.op' rfl (yl_call Try.en116 rfl (opvs_cons hx955 (opvs_cons rfl opvs_nil)) (Cal.mono (c_s_l24Letters ((p_0.Idxs.getD k30 d_Idx).Name) 1 (okL.getD o3.2.2 ok_d_Idx _)) ?_))
                  rintro v957 w956 ⟨rfl, hE958⟩
                  exact ⟨rfl, hE958⟩
                · intro L959 w960 hi961
                  have hE962 := hi961.ex
                  have hE962z := Ex.size hE962
                  obtain ⟨_, _, _, hx963, -, -, -, rfl⟩ := hi961.dep 2 31 rfl rfl
                  exact OpR.op' rfl (Yl.sameI (yl_not rfl hx963 ⟨fun _ _ => rfl, rfl⟩))
                · intro L964 w965 hi966
                  have hE967 := hi966.ex
                  have hE967z := Ex.size hE967
                  obtain ⟨_, _, _, hx968, -, -, -, rfl⟩ := hi966.dep 3 32 rfl rfl
                  exact OpR.op' rfl (Yl.sameI (yl_move rfl hx968 ⟨fun _ _ => rfl, rfl⟩))
                · intro L969 w970 hi971
                  have hE972 := hi971.ex
                  have hE972z := Ex.size hE972
                  obtain ⟨_, _, _, hx973, -, -, -, rfl⟩ := hi971.dep 4 33 rfl rfl
                  have hx974 := hi971.old 4 _ rfl rfl
                  exact OpR.want rfl rfl hx973 (not_t hb104) (Yl.sameI (yl_fieldAddr Try.fd149_1 rfl hx974 ⟨fun _ _ => rfl, rfl⟩))
                · intro L975 w976 hi977
                  have hE978 := hi977.ex
                  have hE978z := Ex.size hE978
                  obtain ⟨_, _, _, hx979, -, -, -, rfl⟩ := hi977.dep 4 33 rfl rfl
                  obtain ⟨_, _, _, hx980, -, -, -, rfl⟩ := hi977.dep 5 34 rfl rfl
                  have q981 := Box.ex hB101 hE978
                  exact OpR.want rfl rfl hx979 (not_t hb104) (Yl.sameI (yl_load1 Try.ty3 rfl hx980 ((q981.cell 1).trans rfl) ⟨fun _ _ => rfl, rfl⟩))
                · intro L982 w983 hi984
                  have hE985 := hi984.ex
                  have hE985z := Ex.size hE985
                  obtain ⟨_, _, _, hx986, -, -, -, rfl⟩ := hi984.dep 4 33 rfl rfl
                  have hx987 := hi984.old 1 _ rfl rfl
                  exact OpR.want rfl rfl hx986 (not_t hb104) (Yl.sameI (yl_fieldAddr Try.fd84_1 rfl hx987 ⟨fun _ _ => rfl, rfl⟩))
                · intro L988 w989 hi990
                  have hE991 := hi990.ex
                  have hE991z := Ex.size hE991
                  obtain ⟨_, _, _, hx992, -, -, -, rfl⟩ := hi990.dep 4 33 rfl rfl
                  obtain ⟨_, _, _, hx993, -, -, -, rfl⟩ := hi990.dep 7 36 rfl rfl
                  have q994 := Box.ex q938 hE991
                  exact OpR.want rfl rfl hx992 (not_t hb104) (Yl.sameI (yl_load1 Try.ty73 rfl hx993 ((q994.cell 1).trans rfl) ⟨fun _ _ => rfl, rfl⟩))
                · intro L995 w996 hi997
                  have hE998 := hi997.ex
                  have hE998z := Ex.size hE998
                  obtain ⟨_, _, _, hx999, -, -, -, rfl⟩ := hi997.dep 4 33 rfl rfl
                  obtain ⟨_, _, _, hx1000, -, -, -, rfl⟩ := hi997.dep 8 37 rfl rfl
                  exact OpR.want rfl rfl hx999 (not_t hb104) (Yl.sameI (yl_len Try.un73 rfl hx1000 ⟨fun _ _ => rfl, rfl⟩))
                · intro L1001 w1002 hi1003
                  have hE1004 := hi1003.ex
                  have hE1004z := Ex.size hE1004
                  obtain ⟨_, _, _, hx1005, -, -, -, rfl⟩ := hi1003.dep 4 33 rfl rfl
                  obtain ⟨_, _, _, hx1006, -, -, -, rfl⟩ := hi1003.dep 9 38 rfl rfl
                  exact OpR.want rfl rfl hx1005 (not_t hb104) (Yl.sameI (yl_sub rfl hx1006 rfl ⟨fun _ _ => rfl, rfl⟩))
                · intro L1007 w1008 hi1009
                  have hE1010 := hi1009.ex
                  have hE1010z := Ex.size hE1010
                  obtain ⟨_, _, _, hx1011, -, -, -, rfl⟩ := hi1009.dep 4 33 rfl rfl
                  obtain ⟨_, _, _, hx1012, -, -, -, rfl⟩ := hi1009.dep 6 35 rfl rfl
                  obtain ⟨_, _, _, hx1013, -, -, -, rfl⟩ := hi1009.dep 10 39 rfl rfl
                  refine OpR.want rfl rfl hx1011 (not_t hb104) (yl_call Try.en50 rfl (opvs_cons hx1012 (opvs_cons rfl (opvs_cons hx1013 opvs_nil))) (Cal.mono (c_s_l1In ((p_0.Idxs.getD k30 d_Idx).Col) 1 (IntKind.wrap .i64 ((p_0.Cols.length : Int) - 1))) ?_))
                  rintro v1015 w1014 ⟨rfl, hE1016⟩
                  exact ⟨rfl, hE1016⟩
                · intro L1017 w1018 hi1019
                  have hE1020 := hi1019.ex
                  have hE1020z := Ex.size hE1020
                  obtain ⟨_, _, _, hx1021, -, -, -, rfl⟩ := hi1019.dep 4 33 rfl rfl
                  obtain ⟨_, _, _, hx1022, -, -, -, rfl⟩ := hi1019.dep 11 40 rfl rfl
                  exact OpR.want rfl rfl hx1021 (not_t hb104) (Yl.sameI (yl_not rfl hx1022 ⟨fun _ _ => rfl, rfl⟩))
                · intro L1023 w1024 hi1025
                  have hE1026 := hi1025.ex
                  have hE1026z := Ex.size hE1026
                  obtain ⟨_, _, _, hx1027, -, -, -, rfl⟩ := hi1025.dep 12 41 rfl rfl
                  obtain ⟨_, _, _, hx1028, -, -, -, rfl⟩ := hi1025.dep 4 33 rfl rfl
                  exact OpR.op' rfl (Yl.sameI (yl_pick_f rfl hx1028 (not_t hb104) hx1027 ⟨fun _ _ => rfl, rfl⟩))
                · intro L1029 w1030 hi1031
                  have hE1032 := hi1031.ex
                  have hE1032z := Ex.size hE1032
                  obtain ⟨_, _, _, hx1033, -, -, -, rfl⟩ := hi1031.dep 13 42 rfl rfl
                  exact OpR.op' rfl (Yl.sameI (yl_move rfl hx1033 ⟨fun _ _ => rfl, rfl⟩))
                · intro L1034 w1035 hi1036
                  have hE1037 := hi1036.ex
                  have hE1037z := Ex.size hE1037
                  obtain ⟨_, _, _, hx1038, -, -, -, rfl⟩ := hi1036.dep 14 43 rfl rfl
                  exact OpR.skip rfl rfl hx1038 (not_f hb109) ⟨rfl, Ex.refl _⟩
                · intro L1039 w1040 hi1041
                  have hE1042 := hi1041.ex
                  have hE1042z := Ex.size hE1042
                  obtain ⟨_, _, _, hx1043, -, -, -, rfl⟩ := hi1041.dep 14 43 rfl rfl
                  exact OpR.skip rfl rfl hx1043 (not_f hb109) ⟨rfl, Ex.refl _⟩
                · intro L1044 w1045 hi1046
                  have hE1047 := hi1046.ex
                  have hE1047z := Ex.size hE1047
                  obtain ⟨_, _, _, hx1048, -, -, -, rfl⟩ := hi1046.dep 14 43 rfl rfl
                  exact OpR.skip rfl rfl hx1048 (not_f hb109) ⟨rfl, Ex.refl _⟩
                · intro L1049 w1050 hi1051
                  have hE1052 := hi1051.ex
                  have hE1052z := Ex.size hE1052
                  obtain ⟨_, _, _, hx1053, -, -, -, rfl⟩ := hi1051.dep 14 43 rfl rfl
                  exact OpR.skip rfl rfl hx1053 (not_f hb109) ⟨rfl, Ex.refl _⟩
                · intro L1054 w1055 hi1056
                  have hE1057 := hi1056.ex
                  have hE1057z := Ex.size hE1057
                  obtain ⟨_, _, _, hx1058, -, -, -, rfl⟩ := hi1056.dep 18 47 rfl rfl
                  obtain ⟨_, _, _, hx1059, -, -, -, rfl⟩ := hi1056.dep 14 43 rfl rfl
                  exact OpR.op' rfl (Yl.sameI (yl_pick_t rfl hx1059 (not_f hb109) rfl ⟨fun _ _ => rfl, rfl⟩))
                · intro L1060 w1061 hi1062
                  have hE1063 := hi1062.ex
                  have hE1063z := Ex.size hE1063
                  obtain ⟨_, _, _, hx1064, -, -, -, rfl⟩ := hi1062.dep 19 48 rfl rfl
                  exact OpR.op' rfl (Yl.sameI (yl_move rfl hx1064 ⟨fun _ _ => rfl, rfl⟩))
                · intro L1065 w1066 hi1067
                  have hE1068 := hi1067.ex
                  have hE1068z := Ex.size hE1068
                  obtain ⟨_, _, _, hx1069, -, -, -, rfl⟩ := hi1067.dep 20 49 rfl rfl
                  exact OpR.skip rfl rfl hx1069 rfl ⟨rfl, Ex.refl _⟩
                · intro L1070 w1071 hi1072
                  have hE1073 := hi1072.ex
                  have hE1073z := Ex.size hE1073
                  obtain ⟨_, _, _, hx1074, -, -, -, rfl⟩ := hi1072.dep 20 49 rfl rfl
                  exact OpR.skip rfl rfl hx1074 rfl ⟨rfl, Ex.refl _⟩
                · intro L1075 w1076 hi1077
                  have hE1078 := hi1077.ex
                  have hE1078z := Ex.size hE1078
                  obtain ⟨_, _, _, hx1079, -, -, -, rfl⟩ := hi1077.dep 20 49 rfl rfl
                  exact OpR.skip rfl rfl hx1079 rfl ⟨rfl, Ex.refl _⟩
                · intro L1080 w1081 hi1082
                  have hE1083 := hi1082.ex
                  have hE1083z := Ex.size hE1083
                  obtain ⟨_, _, _, hx1084, -, -, -, rfl⟩ := hi1082.dep 23 52 rfl rfl
                  exact OpR.undef rfl rfl hx1084 ⟨rfl, Ex.refl _⟩
                · intro L1085 w1086 hi1087
                  have hE1088 := hi1087.ex
                  have hE1088z := Ex.size hE1088
                  obtain ⟨_, _, _, hx1089, -, -, -, rfl⟩ := hi1087.dep 23 52 rfl rfl
                  exact OpR.undef rfl rfl hx1089 ⟨rfl, Ex.refl _⟩
                · intro L1090 w1091 hi1092
                  have hE1093 := hi1092.ex
                  have hE1093z := Ex.size hE1093
                  obtain ⟨_, _, _, hx1094, -, -, -, rfl⟩ := hi1092.dep 23 52 rfl rfl
                  exact OpR.undef rfl rfl hx1094 ⟨rfl, Ex.refl _⟩
                · intro L1095 w1096 hi1097
                  have hE1098 := hi1097.ex
                  have hE1098z := Ex.size hE1098
                  obtain ⟨_, _, _, hx1099, -, -, -, rfl⟩ := hi1097.dep 23 52 rfl rfl
                  exact OpR.undef rfl rfl hx1099 ⟨rfl, Ex.refl _⟩
                · intro L1100 w1101 hi1102
                  have hE1103 := hi1102.ex
                  have hE1103z := Ex.size hE1103
                  obtain ⟨_, _, _, hx1104, -, -, -, rfl⟩ := hi1102.dep 23 52 rfl rfl
                  exact OpR.undef rfl rfl hx1104 ⟨rfl, Ex.refl _⟩
                · intro L1105 w1106 hi1107
                  have hE1108 := hi1107.ex
                  have hE1108z := Ex.size hE1108
                  obtain ⟨_, _, _, hx1109, -, -, -, rfl⟩ := hi1107.dep 23 52 rfl rfl
                  exact OpR.undef rfl rfl hx1109 ⟨rfl, Ex.refl _⟩
                · intro L1110 w1111 hi1112
                  have hE1113 := hi1112.ex
                  have hE1113z := Ex.size hE1113
                  obtain ⟨_, _, _, hx1114, -, -, -, rfl⟩ := hi1112.dep 23 52 rfl rfl
                  exact OpR.undef rfl rfl hx1114 ⟨rfl, Ex.refl _⟩
                · intro L1115 w1116 hi1117
                  have hE1118 := hi1117.ex
                  have hE1118z := Ex.size hE1118
                  obtain ⟨_, _, _, hx1119, -, -, -, rfl⟩ := hi1117.dep 23 52 rfl rfl
                  exact OpR.undef rfl rfl hx1119 ⟨rfl, Ex.refl _⟩
                · intro L1120 w1121 hi1122
                  have hE1123 := hi1122.ex
                  have hE1123z := Ex.size hE1123
                  obtain ⟨_, _, _, hx1124, -, -, -, rfl⟩ := hi1122.dep 23 52 rfl rfl
                  exact OpR.undef rfl rfl hx1124 ⟨rfl, Ex.refl _⟩
                · intro L1125 w1126 hi1127
                  have hE1128 := hi1127.ex
                  have hE1128z := Ex.size hE1128
                  obtain ⟨_, _, _, hx1129, -, -, -, rfl⟩ := hi1127.dep 23 52 rfl rfl
                  exact OpR.undef rfl rfl hx1129 ⟨rfl, Ex.refl _⟩
                · intro L1130 w1131 hi1132
                  have hE1133 := hi1132.ex
                  have hE1133z := Ex.size hE1133
                  obtain ⟨_, _, _, hx1134, -, -, -, rfl⟩ := hi1132.dep 20 49 rfl rfl
                  exact OpR.skip rfl rfl hx1134 rfl ⟨rfl, Ex.refl _⟩
                · intro L1135 w1136 hi1137
                  have hE1138 := hi1137.ex
                  have hE1138z := Ex.size hE1138
                  obtain ⟨_, _, _, hx1139, -, -, -, rfl⟩ := hi1137.dep 34 63 rfl rfl
                  obtain ⟨_, _, _, hx1140, -, -, -, rfl⟩ := hi1137.dep 20 49 rfl rfl
                  exact OpR.op' rfl (Yl.sameI (yl_pick_t rfl hx1140 rfl rfl ⟨fun _ _ => rfl, rfl⟩))
                · intro fl1144 fh1145 L1141 w1142 hp1143
                  have hE1146 := hp1143.ex
                  have hE1146z := Ex.size hE1146
                  have hx1147 := hp1143.old 1 _ rfl rfl
                  have hx1148 := hp1143.old 22 _ rfl rfl
                  have hx1149 := hp1143.old 23 _ rfl rfl
                  have hx1150 := hp1143.old 24 _ rfl rfl
                  obtain ⟨_, hx1151, rfl⟩ := hp1143.new 5 34 rfl rfl
                  obtain ⟨_, hx1152, rfl⟩ := hp1143.new 6 35 rfl rfl
                  obtain ⟨_, hx1153, rfl⟩ := hp1143.new 7 36 rfl rfl
                  obtain ⟨_, hx1154, rfl⟩ := hp1143.new 8 37 rfl rfl
                  obtain ⟨_, hx1155, rfl⟩ := hp1143.new 9 38 rfl rfl
                  obtain ⟨_, hx1156, rfl⟩ := hp1143.new 10 39 rfl rfl
                  obtain ⟨_, hx1157, rfl⟩ := hp1143.new 11 40 rfl rfl
                  obtain ⟨_, hx1158, rfl⟩ := hp1143.new 12 41 rfl rfl
                  obtain ⟨_, hx1159, rfl⟩ := hp1143.new 15 44 rfl rfl
                  obtain ⟨_, hx1160, rfl⟩ := hp1143.new 16 45 rfl rfl
                  obtain ⟨_, hx1161, rfl⟩ := hp1143.new 17 46 rfl rfl
                  obtain ⟨_, hx1162, rfl⟩ := hp1143.new 18 47 rfl rfl
                  obtain ⟨_, hx1163, rfl⟩ := hp1143.new 21 50 rfl rfl
                  obtain ⟨_, hx1164, rfl⟩ := hp1143.new 22 51 rfl rfl
                  obtain ⟨_, hx1165, rfl⟩ := hp1143.new 23 52 rfl rfl
                  obtain ⟨_, hx1166, rfl⟩ := hp1143.new 24 53 rfl rfl
                  obtain ⟨_, hx1167, rfl⟩ := hp1143.new 25 54 rfl rfl
                  obtain ⟨_, hx1168, rfl⟩ := hp1143.new 26 55 rfl rfl
                  obtain ⟨_, hx1169, rfl⟩ := hp1143.new 27 56 rfl rfl
                  obtain ⟨_, hx1170, rfl⟩ := hp1143.new 28 57 rfl rfl
                  obtain ⟨_, hx1171, rfl⟩ := hp1143.new 29 58 rfl rfl
                  obtain ⟨_, hx1172, rfl⟩ := hp1143.new 30 59 rfl rfl
                  obtain ⟨_, hx1173, rfl⟩ := hp1143.new 31 60 rfl rfl
                  obtain ⟨_, hx1174, rfl⟩ := hp1143.new 32 61 rfl rfl
                  obtain ⟨_, hx1175, rfl⟩ := hp1143.new 33 62 rfl rfl
                  obtain ⟨_, hx1176, rfl⟩ := hp1143.new 34 63 rfl rfl
                  obtain ⟨_, hx1177, rfl⟩ := hp1143.new 35 64 rfl rfl
                  refine SeqR.done ?_
                  refine tn ?_
                  refine CW.sub (Sub.cons (d := 1) hx1147 (Sub.cons (d := 22) hx1148 (Sub.cons (d := 23) hx1149 (Sub.cons (d := 24) hx1150 (Sub.cons (d := 34) hx1151 (Sub.cons (d := 35) hx1152 (Sub.cons (d := 36) hx1153 (Sub.cons (d := 37) hx1154 (Sub.cons (d := 38) hx1155 (Sub.cons (d := 39) hx1156 (Sub.cons (d := 40) hx1157 (Sub.cons (d := 41) hx1158 (Sub.cons (d := 44) hx1159 (Sub.cons (d := 45) hx1160 (Sub.cons (d := 46) hx1161 (Sub.cons (d := 47) hx1162 (Sub.cons (d := 50) hx1163 (Sub.cons (d := 51) hx1164 (Sub.cons (d := 52) hx1165 (Sub.cons (d := 53) hx1166 (Sub.cons (d := 54) hx1167 (Sub.cons (d := 55) hx1168 (Sub.cons (d := 56) hx1169 (Sub.cons (d := 57) hx1170 (Sub.cons (d := 58) hx1171 (Sub.cons (d := 59) hx1172 (Sub.cons (d := 60) hx1173 (Sub.cons (d := 61) hx1174 (Sub.cons (d := 62) hx1175 (Sub.cons (d := 63) hx1176 (Sub.cons (d := 64) hx1177 (Sub.nil _)))))))))))))))))))))))))))))))) ?_
                  refine CW.cond_t rfl rfl ?_
                  refine CW.seq ?_
                  refine CW.region ?_
                  refine SeqR.d1 rfl rfl rfl (yl_assign rfl rfl ?_)
                  refine SeqR.done ?_
                  refine tn ?_
                  refine CW.ret ?_
                  refine br ?_
                  refine tr ?_
                  refine tr ?_
                  have hB1179 : B_s_GoodTable_0 p_0 k30 () = .ret false := by simp only [B_s_GoodTable_0, hb16, hb23, hb25, hb104, hb109, cond_true, cond_false, loopE_done, loopE_ret]
                  have hL1178 : loopM (B_s_GoodTable_0 p_0) (p_0.Idxs.length - 0) 0 () = .ret false := hI82.symm.trans (loopM.ret hlt92 hB1179)
                  refine br ?_
                  refine tr ?_
                  refine rr rfl (.cons rfl .nil) ?_
                  have hM1180 : (s_GoodTable p_0) = (false) := by simp only [s_GoodTable, hb16, hb23, hb25, hb104, hb109, hL1178, cond_true, cond_false, loopE_done, loopE_ret]
                  rw [hM1180]
                  have q1181 := Ex.trans hf90 hE99
                  have q1182 := Below.only q1181 hO102 (by omega)
                  have q1183 := Ex.trans q1182 hE1146
                  exact ⟨rfl, q1183⟩
            · skip
              refine CW.drawsI 36 (vgetI [DetI (.pointer (some ⟨b94, 0 + 0, none⟩)), DetI (.string (bs ((p_0.Idxs.getD k30 d_Idx).Name))), DetI (.bool ((s_l24Letters ((p_0.Idxs.getD k30 d_Idx).Name) 1))), DetI (.bool (!(s_l24Letters ((p_0.Idxs.getD k30 d_Idx).Name) 1))), DetI (.bool (!(s_l24Letters ((p_0.Idxs.getD k30 d_Idx).Name) 1))), DetI (undef), DetI (undef), DetI (undef), DetI (undef), DetI (undef), DetI (undef), DetI (undef), DetI (undef), DetI (.bool (true)), DetI (.bool (true)), DetI (undef), DetI (undef), DetI (undef), DetI (undef), DetI (.bool (true)), DetI (.bool (true)), DetI (undef), DetI (undef), DetI (undef), DetI (undef), DetI (undef), DetI (undef), DetI (undef), DetI (undef), DetI (undef), DetI (undef), DetI (undef), DetI (undef), DetI (undef), DetI (undef), DetI (.bool (true))]) Try.follows rfl rfl rfl rfl rfl rfl (vgetI_stable ⟨StableI.det _, StableI.det _, StableI.det _, StableI.det _, StableI.det _, StableI.det _, StableI.det _, StableI.det _, StableI.det _, StableI.det _, StableI.det _, StableI.det _, StableI.det _, StableI.det _, StableI.det _, StableI.det _, StableI.det _, StableI.det _, StableI.det _, StableI.det _, StableI.det _, StableI.det _, StableI.det _, StableI.det _, StableI.det _, StableI.det _, StableI.det _, StableI.det _, StableI.det _, StableI.det _, StableI.det _, StableI.det _, StableI.det _, StableI.det _, StableI.det _, StableI.det _, trivial⟩) ⟨?_, ?_, ?_, ?_, ?_, ?_, ?_, ?_, ?_, ?_, ?_, ?_, ?_, ?_, ?_, ?_, ?_, ?_, ?_, ?_, ?_, ?_, ?_, ?_, ?_, ?_, ?_, ?_, ?_, ?_, ?_, ?_, ?_, ?_, ?_, ?_, trivial⟩ ?_
              · intro L1185 w1186 hi1187
                have hE1188 := hi1187.ex
                have hE1188z := Ex.size hE1188
                have hx1189 := hi1187.old 4 _ rfl rfl
                exact OpR.op' rfl (Yl.sameI (yl_fieldAddr Try.fd149_0 rfl hx1189 ⟨fun _ _ => rfl, rfl⟩))
              · intro L1190 w1191 hi1192
                have hE1193 := hi1192.ex
                have hE1193z := Ex.size hE1193
                obtain ⟨_, _, _, hx1194, -, -, -, rfl⟩ := hi1192.dep 0 29 rfl rfl
                have q1195 := Box.ex hB101 hE1193
                exact OpR.op' rfl (Yl.sameI (yl_load1 Try.ty9 rfl hx1194 ((q1195.cell 0).trans rfl) ⟨fun _ _ => rfl, rfl⟩))
              · intro L1196 w1197 hi1198
                have hE1199 := hi1198.ex
                have hE1199z := Ex.size hE1199
                obtain ⟨_, _, _, hx1200, -, -, -, rfl⟩ := hi1198.dep 1 30 rfl rfl
                refine OpR.op' rfl (yl_call Try.en116 rfl (opvs_cons hx1200 (opvs_cons rfl opvs_nil)) (Cal.mono (c_s_l24Letters ((p_0.Idxs.getD k30 d_Idx).Name) 1 (okL.getD o3.2.2 ok_d_Idx _)) ?_))
                rintro v1202 w1201 ⟨rfl, hE1203⟩
                exact ⟨rfl, hE1203⟩
              · intro L1204 w1205 hi1206
                have hE1207 := hi1206.ex
                have hE1207z := Ex.size hE1207
                obtain ⟨_, _, _, hx1208, -, -, -, rfl⟩ := hi1206.dep 2 31 rfl rfl
                exact OpR.op' rfl (Yl.sameI (yl_not rfl hx1208 ⟨fun _ _ => rfl, rfl⟩))
              · intro L1209 w1210 hi1211
                have hE1212 := hi1211.ex
                have hE1212z := Ex.size hE1212
                obtain ⟨_, _, _, hx1213, -, -, -, rfl⟩ := hi1211.dep 3 32 rfl rfl
                exact OpR.op' rfl (Yl.sameI (yl_move rfl hx1213 ⟨fun _ _ => rfl, rfl⟩))
              · intro L1214 w1215 hi1216
                have hE1217 := hi1216.ex
                have hE1217z := Ex.size hE1217
                obtain ⟨_, _, _, hx1218, -, -, -, rfl⟩ := hi1216.dep 4 33 rfl rfl
                exact OpR.skip rfl rfl hx1218 (not_f hb104) ⟨rfl, Ex.refl _⟩
              · intro L1219 w1220 hi1221
                have hE1222 := hi1221.ex
                have hE1222z := Ex.size hE1222
                obtain ⟨_, _, _, hx1223, -, -, -, rfl⟩ := hi1221.dep 4 33 rfl rfl
                exact OpR.skip rfl rfl hx1223 (not_f hb104) ⟨rfl, Ex.refl _⟩
              · intro L1224 w1225 hi1226
                have hE1227 := hi1226.ex
                have hE1227z := Ex.size hE1227
                obtain ⟨_, _, _, hx1228, -, -, -, rfl⟩ := hi1226.dep 4 33 rfl rfl
                exact OpR.skip rfl rfl hx1228 (not_f hb104) ⟨rfl, Ex.refl _⟩
              · intro L1229 w1230 hi1231
                have hE1232 := hi1231.ex
                have hE1232z := Ex.size hE1232
                obtain ⟨_, _, _, hx1233, -, -, -, rfl⟩ := hi1231.dep 4 33 rfl rfl
                exact OpR.skip rfl rfl hx1233 (not_f hb104) ⟨rfl, Ex.refl _⟩
              · intro L1234 w1235 hi1236
                have hE1237 := hi1236.ex
                have hE1237z := Ex.size hE1237
                obtain ⟨_, _, _, hx1238, -, -, -, rfl⟩ := hi1236.dep 4 33 rfl rfl
                exact OpR.skip rfl rfl hx1238 (not_f hb104) ⟨rfl, Ex.refl _⟩
              · intro L1239 w1240 hi1241
                have hE1242 := hi1241.ex
                have hE1242z := Ex.size hE1242
                obtain ⟨_, _, _, hx1243, -, -, -, rfl⟩ := hi1241.dep 4 33 rfl rfl
                exact OpR.skip rfl rfl hx1243 (not_f hb104) ⟨rfl, Ex.refl _⟩
              · intro L1244 w1245 hi1246
                have hE1247 := hi1246.ex
                have hE1247z := Ex.size hE1247
                obtain ⟨_, _, _, hx1248, -, -, -, rfl⟩ := hi1246.dep 4 33 rfl rfl
                exact OpR.skip rfl rfl hx1248 (not_f hb104) ⟨rfl, Ex.refl _⟩
              · intro L1249 w1250 hi1251
                have hE1252 := hi1251.ex
                have hE1252z := Ex.size hE1252
                obtain ⟨_, _, _, hx1253, -, -, -, rfl⟩ := hi1251.dep 4 33 rfl rfl
                exact OpR.skip rfl rfl hx1253 (not_f hb104) ⟨rfl, Ex.refl _⟩
              · intro L1254 w1255 hi1256
                have hE1257 := hi1256.ex
                have hE1257z := Ex.size hE1257
                obtain ⟨_, _, _, hx1258, -, -, -, rfl⟩ := hi1256.dep 12 41 rfl rfl
                obtain ⟨_, _, _, hx1259, -, -, -, rfl⟩ := hi1256.dep 4 33 rfl rfl
                exact OpR.op' rfl (Yl.sameI (yl_pick_t rfl hx1259 (not_f hb104) rfl ⟨fun _ _ => rfl, rfl⟩))
              · intro L1260 w1261 hi1262
                have hE1263 := hi1262.ex
                have hE1263z := Ex.size hE1263
                obtain ⟨_, _, _, hx1264, -, -, -, rfl⟩ := hi1262.dep 13 42 rfl rfl
                exact OpR.op' rfl (Yl.sameI (yl_move rfl hx1264 ⟨fun _ _ => rfl, rfl⟩))
              · intro L1265 w1266 hi1267
                have hE1268 := hi1267.ex
                have hE1268z := Ex.size hE1268
                obtain ⟨_, _, _, hx1269, -, -, -, rfl⟩ := hi1267.dep 14 43 rfl rfl
                exact OpR.skip rfl rfl hx1269 rfl ⟨rfl, Ex.refl _⟩
              · intro L1270 w1271 hi1272
                have hE1273 := hi1272.ex
                have hE1273z := Ex.size hE1273
                obtain ⟨_, _, _, hx1274, -, -, -, rfl⟩ := hi1272.dep 14 43 rfl rfl
                exact OpR.skip rfl rfl hx1274 rfl ⟨rfl, Ex.refl _⟩
              · intro L1275 w1276 hi1277
                have hE1278 := hi1277.ex
                have hE1278z := Ex.size hE1278
                obtain ⟨_, _, _, hx1279, -, -, -, rfl⟩ := hi1277.dep 14 43 rfl rfl
                exact OpR.skip rfl rfl hx1279 rfl ⟨rfl, Ex.refl _⟩
              · intro L1280 w1281 hi1282
                have hE1283 := hi1282.ex
                have hE1283z := Ex.size hE1283
                obtain ⟨_, _, _, hx1284, -, -, -, rfl⟩ := hi1282.dep 14 43 rfl rfl
                exact OpR.skip rfl rfl hx1284 rfl ⟨rfl, Ex.refl _⟩
              · intro L1285 w1286 hi1287
                have hE1288 := hi1287.ex
                have hE1288z := Ex.size hE1288
                obtain ⟨_, _, _, hx1289, -, -, -, rfl⟩ := hi1287.dep 18 47 rfl rfl
                obtain ⟨_, _, _, hx1290, -, -, -, rfl⟩ := hi1287.dep 14 43 rfl rfl
                exact OpR.op' rfl (Yl.sameI (yl_pick_t rfl hx1290 rfl rfl ⟨fun _ _ => rfl, rfl⟩))
              · intro L1291 w1292 hi1293
                have hE1294 := hi1293.ex
                have hE1294z := Ex.size hE1294
                obtain ⟨_, _, _, hx1295, -, -, -, rfl⟩ := hi1293.dep 19 48 rfl rfl
                exact OpR.op' rfl (Yl.sameI (yl_move rfl hx1295 ⟨fun _ _ => rfl, rfl⟩))
              · intro L1296 w1297 hi1298
                have hE1299 := hi1298.ex
                have hE1299z := Ex.size hE1299
                obtain ⟨_, _, _, hx1300, -, -, -, rfl⟩ := hi1298.dep 20 49 rfl rfl
                exact OpR.skip rfl rfl hx1300 rfl ⟨rfl, Ex.refl _⟩
              · intro L1301 w1302 hi1303
                have hE1304 := hi1303.ex
                have hE1304z := Ex.size hE1304
                obtain ⟨_, _, _, hx1305, -, -, -, rfl⟩ := hi1303.dep 20 49 rfl rfl
                exact OpR.skip rfl rfl hx1305 rfl ⟨rfl, Ex.refl _⟩
              · intro L1306 w1307 hi1308
                have hE1309 := hi1308.ex
                have hE1309z := Ex.size hE1309
                obtain ⟨_, _, _, hx1310, -, -, -, rfl⟩ := hi1308.dep 20 49 rfl rfl
                exact OpR.skip rfl rfl hx1310 rfl ⟨rfl, Ex.refl _⟩
              · intro L1311 w1312 hi1313
                have hE1314 := hi1313.ex
                have hE1314z := Ex.size hE1314
                obtain ⟨_, _, _, hx1315, -, -, -, rfl⟩ := hi1313.dep 23 52 rfl rfl
                exact OpR.undef rfl rfl hx1315 ⟨rfl, Ex.refl _⟩
              · intro L1316 w1317 hi1318
                have hE1319 := hi1318.ex
                have hE1319z := Ex.size hE1319
                obtain ⟨_, _, _, hx1320, -, -, -, rfl⟩ := hi1318.dep 23 52 rfl rfl
                exact OpR.undef rfl rfl hx1320 ⟨rfl, Ex.refl _⟩
              · intro L1321 w1322 hi1323
                have hE1324 := hi1323.ex
                have hE1324z := Ex.size hE1324
                obtain ⟨_, _, _, hx1325, -, -, -, rfl⟩ := hi1323.dep 23 52 rfl rfl
                exact OpR.undef rfl rfl hx1325 ⟨rfl, Ex.refl _⟩
              · intro L1326 w1327 hi1328
                have hE1329 := hi1328.ex
                have hE1329z := Ex.size hE1329
                obtain ⟨_, _, _, hx1330, -, -, -, rfl⟩ := hi1328.dep 23 52 rfl rfl
                exact OpR.undef rfl rfl hx1330 ⟨rfl, Ex.refl _⟩
              · intro L1331 w1332 hi1333
                have hE1334 := hi1333.ex
                have hE1334z := Ex.size hE1334
                obtain ⟨_, _, _, hx1335, -, -, -, rfl⟩ := hi1333.dep 23 52 rfl rfl
                exact OpR.undef rfl rfl hx1335 ⟨rfl, Ex.refl _⟩
              · intro L1336 w1337 hi1338
                have hE1339 := hi1338.ex
                have hE1339z := Ex.size hE1339
                obtain ⟨_, _, _, hx1340, -, -, -, rfl⟩ := hi1338.dep 23 52 rfl rfl
                exact OpR.undef rfl rfl hx1340 ⟨rfl, Ex.refl _⟩
              · intro L1341 w1342 hi1343
                have hE1344 := hi1343.ex
                have hE1344z := Ex.size hE1344
                obtain ⟨_, _, _, hx1345, -, -, -, rfl⟩ := hi1343.dep 23 52 rfl rfl
                exact OpR.undef rfl rfl hx1345 ⟨rfl, Ex.refl _⟩
              · intro L1346 w1347 hi1348
                have hE1349 := hi1348.ex
                have hE1349z := Ex.size hE1349
                obtain ⟨_, _, _, hx1350, -, -, -, rfl⟩ := hi1348.dep 23 52 rfl rfl
                exact OpR.undef rfl rfl hx1350 ⟨rfl, Ex.refl _⟩
              · intro L1351 w1352 hi1353
                have hE1354 := hi1353.ex
                have hE1354z := Ex.size hE1354
                obtain ⟨_, _, _, hx1355, -, -, -, rfl⟩ := hi1353.dep 23 52 rfl rfl
                exact OpR.undef rfl rfl hx1355 ⟨rfl, Ex.refl _⟩
              · intro L1356 w1357 hi1358
                have hE1359 := hi1358.ex
                have hE1359z := Ex.size hE1359
                obtain ⟨_, _, _, hx1360, -, -, -, rfl⟩ := hi1358.dep 23 52 rfl rfl
                exact OpR.undef rfl rfl hx1360 ⟨rfl, Ex.refl _⟩
              · intro L1361 w1362 hi1363
                have hE1364 := hi1363.ex
                have hE1364z := Ex.size hE1364
                obtain ⟨_, _, _, hx1365, -, -, -, rfl⟩ := hi1363.dep 20 49 rfl rfl
                exact OpR.skip rfl rfl hx1365 rfl ⟨rfl, Ex.refl _⟩
              · intro L1366 w1367 hi1368
                have hE1369 := hi1368.ex
                have hE1369z := Ex.size hE1369
                obtain ⟨_, _, _, hx1370, -, -, -, rfl⟩ := hi1368.dep 34 63 rfl rfl
                obtain ⟨_, _, _, hx1371, -, -, -, rfl⟩ := hi1368.dep 20 49 rfl rfl
                exact OpR.op' rfl (Yl.sameI (yl_pick_t rfl hx1371 rfl rfl ⟨fun _ _ => rfl, rfl⟩))
              · intro fl1375 fh1376 L1372 w1373 hp1374
                have hE1377 := hp1374.ex
                have hE1377z := Ex.size hE1377
                have hx1378 := hp1374.old 1 _ rfl rfl
                have hx1379 := hp1374.old 22 _ rfl rfl
                have hx1380 := hp1374.old 23 _ rfl rfl
                have hx1381 := hp1374.old 24 _ rfl rfl
                obtain ⟨_, hx1382, rfl⟩ := hp1374.new 5 34 rfl rfl
                obtain ⟨_, hx1383, rfl⟩ := hp1374.new 6 35 rfl rfl
                obtain ⟨_, hx1384, rfl⟩ := hp1374.new 7 36 rfl rfl
                obtain ⟨_, hx1385, rfl⟩ := hp1374.new 8 37 rfl rfl
                obtain ⟨_, hx1386, rfl⟩ := hp1374.new 9 38 rfl rfl
                obtain ⟨_, hx1387, rfl⟩ := hp1374.new 10 39 rfl rfl
                obtain ⟨_, hx1388, rfl⟩ := hp1374.new 11 40 rfl rfl
                obtain ⟨_, hx1389, rfl⟩ := hp1374.new 12 41 rfl rfl
                obtain ⟨_, hx1390, rfl⟩ := hp1374.new 15 44 rfl rfl
                obtain ⟨_, hx1391, rfl⟩ := hp1374.new 16 45 rfl rfl
                obtain ⟨_, hx1392, rfl⟩ := hp1374.new 17 46 rfl rfl
                obtain ⟨_, hx1393, rfl⟩ := hp1374.new 18 47 rfl rfl
                obtain ⟨_, hx1394, rfl⟩ := hp1374.new 21 50 rfl rfl
                obtain ⟨_, hx1395, rfl⟩ := hp1374.new 22 51 rfl rfl
                obtain ⟨_, hx1396, rfl⟩ := hp1374.new 23 52 rfl rfl
                obtain ⟨_, hx1397, rfl⟩ := hp1374.new 24 53 rfl rfl
                obtain ⟨_, hx1398, rfl⟩ := hp1374.new 25 54 rfl rfl
                obtain ⟨_, hx1399, rfl⟩ := hp1374.new 26 55 rfl rfl
                obtain ⟨_, hx1400, rfl⟩ := hp1374.new 27 56 rfl rfl
                obtain ⟨_, hx1401, rfl⟩ := hp1374.new 28 57 rfl rfl
                obtain ⟨_, hx1402, rfl⟩ := hp1374.new 29 58 rfl rfl
                obtain ⟨_, hx1403, rfl⟩ := hp1374.new 30 59 rfl rfl
                obtain ⟨_, hx1404, rfl⟩ := hp1374.new 31 60 rfl rfl
                obtain ⟨_, hx1405, rfl⟩ := hp1374.new 32 61 rfl rfl
                obtain ⟨_, hx1406, rfl⟩ := hp1374.new 33 62 rfl rfl
                obtain ⟨_, hx1407, rfl⟩ := hp1374.new 34 63 rfl rfl
                obtain ⟨_, hx1408, rfl⟩ := hp1374.new 35 64 rfl rfl
                refine SeqR.done ?_
                refine tn ?_
                refine CW.sub (Sub.cons (d := 1) hx1378 (Sub.cons (d := 22) hx1379 (Sub.cons (d := 23) hx1380 (Sub.cons (d := 24) hx1381 (Sub.cons (d := 34) hx1382 (Sub.cons (d := 35) hx1383 (Sub.cons (d := 36) hx1384 (Sub.cons (d := 37) hx1385 (Sub.cons (d := 38) hx1386 (Sub.cons (d := 39) hx1387 (Sub.cons (d := 40) hx1388 (Sub.cons (d := 41) hx1389 (Sub.cons (d := 44) hx1390 (Sub.cons (d := 45) hx1391 (Sub.cons (d := 46) hx1392 (Sub.cons (d := 47) hx1393 (Sub.cons (d := 50) hx1394 (Sub.cons (d := 51) hx1395 (Sub.cons (d := 52) hx1396 (Sub.cons (d := 53) hx1397 (Sub.cons (d := 54) hx1398 (Sub.cons (d := 55) hx1399 (Sub.cons (d := 56) hx1400 (Sub.cons (d := 57) hx1401 (Sub.cons (d := 58) hx1402 (Sub.cons (d := 59) hx1403 (Sub.cons (d := 60) hx1404 (Sub.cons (d := 61) hx1405 (Sub.cons (d := 62) hx1406 (Sub.cons (d := 63) hx1407 (Sub.cons (d := 64) hx1408 (Sub.nil _)))))))))))))))))))))))))))))))) ?_
                refine CW.cond_t rfl rfl ?_
                refine CW.seq ?_
                refine CW.region ?_
                refine SeqR.d1 rfl rfl rfl (yl_assign rfl rfl ?_)
                refine SeqR.done ?_
                refine tn ?_
                refine CW.ret ?_
                refine br ?_
                refine tr ?_
                refine tr ?_
                have hB1410 : B_s_GoodTable_0 p_0 k30 () = .ret false := by simp only [B_s_GoodTable_0, hb16, hb23, hb25, hb104, cond_true, cond_false, loopE_done, loopE_ret]
                have hL1409 : loopM (B_s_GoodTable_0 p_0) (p_0.Idxs.length - 0) 0 () = .ret false := hI82.symm.trans (loopM.ret hlt92 hB1410)
                refine br ?_
                refine tr ?_
                refine rr rfl (.cons rfl .nil) ?_
                have hM1411 : (s_GoodTable p_0) = (false) := by simp only [s_GoodTable, hb16, hb23, hb25, hb104, hL1409, cond_true, cond_false, loopE_done, loopE_ret]
                rw [hM1411]
                have q1412 := Ex.trans hf90 hE99
                have q1413 := Below.only q1412 hO102 (by omega)
                have q1414 := Ex.trans q1413 hE1377
                exact ⟨rfl, q1414⟩
          · skip
            refine CW.seq ?_
            refine CW.region ?_
            refine SeqR.d1 rfl rfl rfl (yl_lss rfl rfl rfl ?_)
            refine SeqR.done ?_
            refine tn ?_
            refine CW.seq ?_
            refine CW.cond_f rfl (lt_f hlt92) ?_
            refine CW.exit ?_
            refine tx ?_
            refine tx ?_
            have hL1415 : loopM (B_s_GoodTable_0 p_0) (p_0.Idxs.length - 0) 0 () = .done () := hI82.symm.trans (loopM.stop hlt92)
            refine bx ?_
            refine tn ?_
            refine CW.seq ?_
            refine CW.region ?_
            refine SeqR.d1 rfl rfl rfl (yl_assign rfl rfl ?_)
            refine SeqR.done ?_
            refine tn ?_
            refine CW.ret ?_
            refine rr rfl (.cons rfl .nil) ?_
            have hM1416 : (s_GoodTable p_0) = (true) := by simp only [s_GoodTable, hb16, hb23, hb25, hL1415, cond_true, cond_false, loopE_done, loopE_ret]
            rw [hM1416]
            exact ⟨rfl, hf90⟩
    · skip
      refine SeqR.z rfl rfl rfl rfl rfl (not_f hb23) ?_
      refine SeqR.z rfl rfl rfl rfl rfl (not_f hb23) ?_
      refine SeqR.z rfl rfl rfl rfl rfl (not_f hb23) ?_
      refine SeqR.z rfl rfl rfl rfl rfl (not_f hb23) ?_
      refine SeqR.d1 rfl rfl rfl (yl_pick_t rfl rfl (not_f hb23) rfl ?_)
      refine SeqR.done ?_
      refine tn ?_
      refine CW.cond_t rfl rfl ?_
      refine CW.seq ?_
      refine CW.region ?_
      refine SeqR.d1 rfl rfl rfl (yl_assign rfl rfl ?_)
      refine SeqR.done ?_
      refine tn ?_
      refine CW.ret ?_
      refine tr ?_
      refine rr rfl (.cons rfl .nil) ?_
      have hM1417 : (s_GoodTable p_0) = (false) := by simp only [s_GoodTable, hb16, hb23, cond_true, cond_false, loopE_done, loopE_ret]
      rw [hM1417]
      have q1418 := Ex.trans (Ex.refl w) hE12
      have q1419 := Ex.trans q1418 hE15
      have q1420 := Ex.trans q1419 hE22
      exact ⟨rfl, q1420⟩
  · skip
    refine SeqR.z rfl rfl rfl rfl rfl (not_f hb16) ?_
    refine SeqR.z rfl rfl rfl rfl rfl (not_f hb16) ?_
    refine SeqR.z rfl rfl rfl rfl rfl (not_f hb16) ?_
    refine SeqR.z rfl rfl rfl rfl rfl (not_f hb16) ?_
    refine SeqR.d1 rfl rfl rfl (yl_pick_t rfl rfl (not_f hb16) rfl ?_)
    refine SeqR.d1 rfl rfl rfl (yl_move rfl rfl ?_)
    refine SeqR.z rfl rfl rfl rfl rfl rfl ?_
    refine SeqR.z rfl rfl rfl rfl rfl rfl ?_
    refine SeqR.z rfl rfl rfl rfl rfl rfl ?_
    refine SeqR.z rfl rfl rfl rfl rfl rfl ?_
    refine SeqR.d1 rfl rfl rfl (yl_pick_t rfl rfl rfl rfl ?_)
    refine SeqR.done ?_
    refine tn ?_
    refine CW.cond_t rfl rfl ?_
    refine CW.seq ?_
    refine CW.region ?_
    refine SeqR.d1 rfl rfl rfl (yl_assign rfl rfl ?_)
    refine SeqR.done ?_
    refine tn ?_
    refine CW.ret ?_
    refine tr ?_
    refine rr rfl (.cons rfl .nil) ?_
    have hM1421 : (s_GoodTable p_0) = (false) := by simp only [s_GoodTable, hb16, cond_true, cond_false, loopE_done, loopE_ret]
    rw [hM1421]
    have q1422 := Ex.trans (Ex.refl w) hE12
    have q1423 := Ex.trans q1422 hE15
    exact ⟨rfl, q1423⟩
end Go.Proofs.Ytnfjabkdlkejkaa
