/- Good Copy: what each call returns, part 2. -/
import Derived.Test.YtnfjabkdlkejkaaGoodCopyC1
set_option linter.unusedVariables false
set_option linter.unusedSimpArgs false
namespace Go.Proofs.Ytnfjabkdlkejkaa
open Go.RowKit Go.X
set_option maxRecDepth 100000 in
set_option maxHeartbeats 2000000 in
theorem c_i_GoodWrites {A1 : Option Addr} {c1 : Nat} {w : World} (p_l : List DWrite) (h1 : RdS w (Iv 0 w.heap.size) (RF e_Write) 3 A1 p_l.length c1 p_l) (o2 : (okL ok_Write) p_l) : Cal Try.prog 111 #[.slice A1 p_l.length c1] w fun v w' => v = .bool ((i_GoodWrites p_l)) ∧ Ex w w' := by
  have hol3 := o2.1
  refine Cal.of (vs := [.slice A1 p_l.length c1]) Try.func111 rfl Try.ntmps111 rfl ?_
  refine CW.seq ?_
  refine CW.region ?_
  refine SeqR.d1 rfl rfl rfl (yl_assign rfl rfl ?_)
  refine SeqR.done ?_
  refine tn ?_
  refine CW.seq ?_
  refine CW.region ?_
  refine SeqR.d1 rfl rfl rfl (yl_move rfl rfl ?_)
  refine SeqR.d1 rfl rfl rfl (yl_len Try.un67 rfl rfl ?_)
  refine SeqR.d1 rfl rfl rfl (yl_leq rfl rfl rfl ?_)
  refine SeqR.d1 rfl rfl rfl (yl_move rfl rfl ?_)
  refine bcase (decide ((p_l.length : Int) ≤ 24)) (fun hb4 => ?_) (fun hb4 => ?_)
  · have hb4p := dec_t hb4
    refine SeqR.y rfl rfl rfl rfl rfl hb4 (yl_move rfl rfl ?_)
    refine SeqR.y rfl rfl rfl rfl rfl hb4 (yl_call Try.en130 rfl (opvs_cons rfl opvs_nil) (Cal.mono (c_i_writeKeys p_l (RdS.up h1 good_Write) o2) ?_))
    rintro v7 w5 ⟨A6, c6, rfl, h6, hE8⟩
    have hE8z := Ex.size hE8
    refine SeqR.y rfl rfl rfl rfl rfl hb4 (yl_call Try.en129 rfl (opvs_cons rfl opvs_nil) (Cal.mono (c_i_areRising (i_writeKeys p_l) (RdS.up h6 good_Str) (ok_i_writeKeys o2)) ?_))
    rintro v10 w9 ⟨rfl, hE11⟩
    have hE11z := Ex.size hE11
    refine SeqR.d1 rfl rfl rfl (yl_pick_t rfl rfl hb4 rfl ?_)
    refine SeqR.d1 rfl rfl rfl (yl_move rfl rfl ?_)
    refine bcase (i_areRising (i_writeKeys p_l)) (fun hb12 => ?_) (fun hb12 => ?_)
    · skip
      refine SeqR.y rfl rfl rfl rfl rfl hb12 (yl_move rfl rfl ?_)
      have q13 := RdS.ex good_Write h1 hE8
      have q14 := RdS.ex good_Write q13 hE11
      refine SeqR.y rfl rfl rfl rfl rfl hb12 (yl_call Try.en112 rfl (opvs_cons rfl (opvs_cons rfl opvs_nil)) (Cal.mono (c_g_slices_ContainsFunc_Write p_l (fun y0 => i_GoodWrites_c1 y0) (RdS.up q14 good_Write) Try.en131 (fun _ y0 => fun hE ov0 => c_i_GoodWrites_c1 y0 ov0) o2) ?_))
      rintro v16 w15 ⟨rfl, hE17⟩
      have hE17z := Ex.size hE17
      refine SeqR.y rfl rfl rfl rfl rfl hb12 (yl_not rfl rfl ?_)
      refine SeqR.d1 rfl rfl rfl (yl_pick_t rfl rfl hb12 rfl ?_)
      refine SeqR.d1 rfl rfl rfl (yl_assign rfl rfl ?_)
      refine SeqR.done ?_
      refine tn ?_
      refine CW.ret ?_
      refine rr rfl (.cons rfl .nil) ?_
      have hM18 : (i_GoodWrites p_l) = (!(g_slices_ContainsFunc_Write p_l (fun y0 => i_GoodWrites_c1 y0))) := by simp only [i_GoodWrites, hb4, hb12, cond_true, cond_false, loopE_done, loopE_ret]
      rw [hM18]
      have q19 := Ex.trans (Ex.refl w) hE8
      have q20 := Ex.trans q19 hE11
      have q21 := Ex.trans q20 hE17
      exact ⟨rfl, q21⟩
    · skip
      refine SeqR.z rfl rfl rfl rfl rfl hb12 ?_
      refine SeqR.z rfl rfl rfl rfl rfl hb12 ?_
      refine SeqR.z rfl rfl rfl rfl rfl hb12 ?_
      refine SeqR.d1 rfl rfl rfl (yl_pick_f rfl rfl hb12 rfl ?_)
      refine SeqR.d1 rfl rfl rfl (yl_assign rfl rfl ?_)
      refine SeqR.done ?_
      refine tn ?_
      refine CW.ret ?_
      refine rr rfl (.cons rfl .nil) ?_
      have hM22 : (i_GoodWrites p_l) = (false) := by simp only [i_GoodWrites, hb4, hb12, cond_true, cond_false, loopE_done, loopE_ret]
      rw [hM22]
      have q23 := Ex.trans (Ex.refl w) hE8
      have q24 := Ex.trans q23 hE11
      exact ⟨rfl, q24⟩
  · have hb4p := dec_f hb4
    refine SeqR.z rfl rfl rfl rfl rfl hb4 ?_
    refine SeqR.z rfl rfl rfl rfl rfl hb4 ?_
    refine SeqR.z rfl rfl rfl rfl rfl hb4 ?_
    refine SeqR.d1 rfl rfl rfl (yl_pick_f rfl rfl hb4 rfl ?_)
    refine SeqR.d1 rfl rfl rfl (yl_move rfl rfl ?_)
    refine SeqR.z rfl rfl rfl rfl rfl rfl ?_
    refine SeqR.z rfl rfl rfl rfl rfl rfl ?_
    refine SeqR.z rfl rfl rfl rfl rfl rfl ?_
    refine SeqR.d1 rfl rfl rfl (yl_pick_f rfl rfl rfl rfl ?_)
    refine SeqR.d1 rfl rfl rfl (yl_assign rfl rfl ?_)
    refine SeqR.done ?_
    refine tn ?_
    refine CW.ret ?_
    refine rr rfl (.cons rfl .nil) ?_
    have hM25 : (i_GoodWrites p_l) = (false) := by simp only [i_GoodWrites, hb4, cond_true, cond_false, loopE_done, loopE_ret]
    rw [hM25]
    exact ⟨rfl, (Ex.refl w)⟩
set_option maxRecDepth 100000 in
set_option maxHeartbeats 2000000 in
theorem c_i_isRows_c1 {w : World} (p_w : DWrite) (o1 : ok_Write p_w) : Cal Try.prog 113 #[.agg #[.string (bs (p_w.Key)), .string (bs (p_w.Val)), .bool (p_w.Gone)]] w fun v w' => v = .bool ((i_isRows_c1 p_w)) ∧ Ex w w' := by
  have hol2 : p_w.Key.length ≤ 1073741824 := o1.1
  have hol3 : p_w.Val.length ≤ 1073741824 := o1.2
  refine Cal.of (vs := [.agg #[.string (bs (p_w.Key)), .string (bs (p_w.Val)), .bool (p_w.Gone)]]) Try.func113 rfl Try.ntmps113 rfl ?_
  refine CW.seq ?_
  refine CW.region ?_
  refine SeqR.d1 rfl rfl rfl (yl_box (cs := [.string (bs (p_w.Key)), .string (bs (p_w.Val)), .bool (p_w.Gone)]) rfl rfl rfl ?_)
  intro b4 w5 hs6 hz7 hB8 hE9
  refine SeqR.d1 rfl rfl rfl (yl_assign rfl rfl ?_)
  refine SeqR.done ?_
  refine tn ?_
  refine CW.seq ?_
  refine CW.region ?_
  refine SeqR.d1 rfl rfl rfl (yl_fieldAddr Try.fd139_2 rfl rfl ?_)
  refine SeqR.d1 rfl rfl rfl (yl_load1 Try.ty4 rfl rfl ((hB8.cell 2).trans rfl) ?_)
  refine SeqR.d1 rfl rfl rfl (yl_assign rfl rfl ?_)
  refine SeqR.done ?_
  refine tn ?_
  refine CW.ret ?_
  refine rr rfl (.cons rfl .nil) ?_
  have hM10 : (i_isRows_c1 p_w) = (p_w.Gone) := by simp only [i_isRows_c1, cond_true, cond_false, loopE_done, loopE_ret]
  rw [hM10]
  have q11 := Ex.trans (Ex.refl w) hE9
  exact ⟨rfl, q11⟩
set_option maxRecDepth 100000 in
set_option maxHeartbeats 2000000 in
theorem c_i_isRows {A1 : Option Addr} {c1 : Nat} {w : World} (p_rows : List DWrite) (h1 : RdS w (Iv 0 w.heap.size) (RF e_Write) 3 A1 p_rows.length c1 p_rows) (o2 : (okL ok_Write) p_rows) : Cal Try.prog 87 #[.slice A1 p_rows.length c1] w fun v w' => v = .bool ((i_isRows p_rows)) ∧ Ex w w' := by
  have hol3 := o2.1
  refine Cal.of (vs := [.slice A1 p_rows.length c1]) Try.func87 rfl Try.ntmps87 rfl ?_
  refine CW.seq ?_
  refine CW.region ?_
  refine SeqR.d1 rfl rfl rfl (yl_assign rfl rfl ?_)
  refine SeqR.done ?_
  refine tn ?_
  refine CW.seq ?_
  refine CW.region ?_
  refine SeqR.d1 rfl rfl rfl (yl_move rfl rfl ?_)
  refine SeqR.d1 rfl rfl rfl (yl_call Try.en111 rfl (opvs_cons rfl opvs_nil) (Cal.mono (c_i_GoodWrites p_rows (RdS.up h1 good_Write) o2) ?_))
  rintro v5 w4 ⟨rfl, hE6⟩
  have hE6z := Ex.size hE6
  refine SeqR.d1 rfl rfl rfl (yl_move rfl rfl ?_)
  refine bcase (i_GoodWrites p_rows) (fun hb7 => ?_) (fun hb7 => ?_)
  · skip
    refine SeqR.y rfl rfl rfl rfl rfl hb7 (yl_move rfl rfl ?_)
    have q8 := RdS.ex good_Write h1 hE6
    refine SeqR.y rfl rfl rfl rfl rfl hb7 (yl_call Try.en112 rfl (opvs_cons rfl (opvs_cons rfl opvs_nil)) (Cal.mono (c_g_slices_ContainsFunc_Write p_rows (fun y0 => i_isRows_c1 y0) (RdS.up q8 good_Write) Try.en113 (fun _ y0 => fun hE ov0 => c_i_isRows_c1 y0 ov0) o2) ?_))
    rintro v10 w9 ⟨rfl, hE11⟩
    have hE11z := Ex.size hE11
    refine SeqR.y rfl rfl rfl rfl rfl hb7 (yl_not rfl rfl ?_)
    refine SeqR.d1 rfl rfl rfl (yl_pick_t rfl rfl hb7 rfl ?_)
    refine SeqR.d1 rfl rfl rfl (yl_assign rfl rfl ?_)
    refine SeqR.done ?_
    refine tn ?_
    refine CW.ret ?_
    refine rr rfl (.cons rfl .nil) ?_
    have hM12 : (i_isRows p_rows) = (!(g_slices_ContainsFunc_Write p_rows (fun y0 => i_isRows_c1 y0))) := by simp only [i_isRows, hb7, cond_true, cond_false, loopE_done, loopE_ret]
    rw [hM12]
    have q13 := Ex.trans (Ex.refl w) hE6
    have q14 := Ex.trans q13 hE11
    exact ⟨rfl, q14⟩
  · skip
    refine SeqR.z rfl rfl rfl rfl rfl hb7 ?_
    refine SeqR.z rfl rfl rfl rfl rfl hb7 ?_
    refine SeqR.z rfl rfl rfl rfl rfl hb7 ?_
    refine SeqR.d1 rfl rfl rfl (yl_pick_f rfl rfl hb7 rfl ?_)
    refine SeqR.d1 rfl rfl rfl (yl_assign rfl rfl ?_)
    refine SeqR.done ?_
    refine tn ?_
    refine CW.ret ?_
    refine rr rfl (.cons rfl .nil) ?_
    have hM15 : (i_isRows p_rows) = (false) := by simp only [i_isRows, hb7, cond_true, cond_false, loopE_done, loopE_ret]
    rw [hM15]
    have q16 := Ex.trans (Ex.refl w) hE6
    exact ⟨rfl, q16⟩
set_option maxRecDepth 100000 in
set_option maxHeartbeats 2000000 in
theorem c_i_GoodCopy {A1 : Option Addr} {c1 : Nat} {w : World} (p_c : DCopy) (h1 : RdS w (Iv 0 w.heap.size) (RF e_Write) 3 A1 p_c.Rows.length c1 p_c.Rows) (o2 : ok_Copy p_c) : Cal Try.prog 40 #[.agg #[.int .i64 (p_c.Time), .slice A1 p_c.Rows.length c1]] w fun v w' => v = .bool ((i_GoodCopy p_c)) ∧ Ex w w' := by
  have hol3 := o2.1
  refine Cal.of (vs := [.agg #[.int .i64 (p_c.Time), .slice A1 p_c.Rows.length c1]]) Try.func40 rfl Try.ntmps40 rfl ?_
  refine CW.seq ?_
  refine CW.region ?_
  refine SeqR.d1 rfl rfl rfl (yl_box (cs := [.int .i64 (p_c.Time), .slice A1 p_c.Rows.length c1]) rfl rfl rfl ?_)
  intro b4 w5 hs6 hz7 hB8 hE9
  refine SeqR.d1 rfl rfl rfl (yl_assign rfl rfl ?_)
  refine SeqR.done ?_
  refine tn ?_
  refine CW.seq ?_
  refine CW.region ?_
  refine SeqR.d1 rfl rfl rfl (yl_fieldAddr Try.fd69_0 rfl rfl ?_)
  refine SeqR.d1 rfl rfl rfl (yl_load1 Try.ty3 rfl rfl ((hB8.cell 0).trans rfl) ?_)
  refine SeqR.d1 rfl rfl rfl (yl_call Try.en86 rfl (opvs_cons rfl opvs_nil) (Cal.mono (c_i_isTrue p_c.Time) ?_))
  rintro v11 w10 ⟨rfl, hE12⟩
  have hE12z := Ex.size hE12
  refine SeqR.d1 rfl rfl rfl (yl_move rfl rfl ?_)
  refine bcase (i_isTrue p_c.Time) (fun hb13 => ?_) (fun hb13 => ?_)
  · skip
    refine SeqR.y rfl rfl rfl rfl rfl hb13 (yl_fieldAddr Try.fd69_1 rfl rfl ?_)
    have q14 := Box.ex hB8 hE12
    refine SeqR.y rfl rfl rfl rfl rfl hb13 (yl_load1 Try.ty67 rfl rfl ((q14.cell 1).trans rfl) ?_)
    have q15 := RdS.ex good_Write h1 hE9
    have q16 := RdS.ex good_Write q15 hE12
    refine SeqR.y rfl rfl rfl rfl rfl hb13 (yl_call Try.en87 rfl (opvs_cons rfl opvs_nil) (Cal.mono (c_i_isRows p_c.Rows (RdS.up q16 good_Write) o2) ?_))
    rintro v18 w17 ⟨rfl, hE19⟩
    have hE19z := Ex.size hE19
    refine SeqR.d1 rfl rfl rfl (yl_pick_t rfl rfl hb13 rfl ?_)
    refine SeqR.d1 rfl rfl rfl (yl_move rfl rfl ?_)
    refine bcase (i_isRows p_c.Rows) (fun hb20 => ?_) (fun hb20 => ?_)
    · skip
      refine SeqR.y rfl rfl rfl rfl rfl hb20 (yl_fieldAddr Try.fd69_0 rfl rfl ?_)
      have q21 := Box.ex q14 hE19
      refine SeqR.y rfl rfl rfl rfl rfl hb20 (yl_load1 Try.ty3 rfl rfl ((q21.cell 0).trans rfl) ?_)
      refine SeqR.y rfl rfl rfl rfl rfl hb20 (yl_gtr rfl rfl rfl ?_)
      refine SeqR.y rfl rfl rfl rfl rfl hb20 (yl_move rfl rfl ?_)
      refine bcase (decide (0 < p_c.Time)) (fun hb22 => ?_) (fun hb22 => ?_)
      · have hb22p := dec_t hb22
        refine SeqR.z rfl rfl rfl rfl rfl hb22 ?_
        refine SeqR.z rfl rfl rfl rfl rfl hb22 ?_
        refine SeqR.z rfl rfl rfl rfl rfl hb22 ?_
        refine SeqR.z rfl rfl rfl rfl rfl hb22 ?_
        refine SeqR.y rfl rfl rfl rfl rfl hb20 (yl_pick_t rfl rfl hb22 rfl ?_)
        refine SeqR.d1 rfl rfl rfl (yl_pick_t rfl rfl hb20 rfl ?_)
        refine SeqR.d1 rfl rfl rfl (yl_assign rfl rfl ?_)
        refine SeqR.done ?_
        refine tn ?_
        refine CW.ret ?_
        refine rr rfl (.cons rfl .nil) ?_
        have hM23 : (i_GoodCopy p_c) = (true) := by simp only [i_GoodCopy, hb13, hb20, hb22, cond_true, cond_false, loopE_done, loopE_ret]
        rw [hM23]
        have q24 := Ex.trans (Ex.refl w) hE9
        have q25 := Ex.trans q24 hE12
        have q26 := Ex.trans q25 hE19
        exact ⟨rfl, q26⟩
      · have hb22p := dec_f hb22
        refine SeqR.y rfl rfl rfl rfl rfl hb22 (yl_fieldAddr Try.fd69_1 rfl rfl ?_)
        refine SeqR.y rfl rfl rfl rfl rfl hb22 (yl_load1 Try.ty67 rfl rfl ((q21.cell 1).trans rfl) ?_)
        refine SeqR.y rfl rfl rfl rfl rfl hb22 (yl_len Try.un67 rfl rfl ?_)
        refine SeqR.y rfl rfl rfl rfl rfl hb22 (yl_eql rfl rfl rfl ?_)
        refine SeqR.y rfl rfl rfl rfl rfl hb20 (yl_pick_f rfl rfl hb22 rfl ?_)
        refine SeqR.d1 rfl rfl rfl (yl_pick_t rfl rfl hb20 rfl ?_)
        refine SeqR.d1 rfl rfl rfl (yl_assign rfl rfl ?_)
        refine SeqR.done ?_
        refine tn ?_
        refine CW.ret ?_
        refine rr rfl (.cons rfl .nil) ?_
        have hM27 : (i_GoodCopy p_c) = (decide ((p_c.Rows.length : Int) = 0)) := by simp only [i_GoodCopy, hb13, hb20, hb22, cond_true, cond_false, loopE_done, loopE_ret]
        rw [hM27]
        have q28 := Ex.trans (Ex.refl w) hE9
        have q29 := Ex.trans q28 hE12
        have q30 := Ex.trans q29 hE19
        exact ⟨rfl, q30⟩
    · skip
      refine SeqR.z rfl rfl rfl rfl rfl hb20 ?_
      refine SeqR.z rfl rfl rfl rfl rfl hb20 ?_
      refine SeqR.z rfl rfl rfl rfl rfl hb20 ?_
      refine SeqR.z rfl rfl rfl rfl rfl hb20 ?_
      refine SeqR.q rfl rfl rfl rfl rfl ?_
      refine SeqR.q rfl rfl rfl rfl rfl ?_
      refine SeqR.q rfl rfl rfl rfl rfl ?_
      refine SeqR.q rfl rfl rfl rfl rfl ?_
      refine SeqR.z rfl rfl rfl rfl rfl hb20 ?_
      refine SeqR.d1 rfl rfl rfl (yl_pick_f rfl rfl hb20 rfl ?_)
      refine SeqR.d1 rfl rfl rfl (yl_assign rfl rfl ?_)
      refine SeqR.done ?_
      refine tn ?_
      refine CW.ret ?_
      refine rr rfl (.cons rfl .nil) ?_
      have hM31 : (i_GoodCopy p_c) = (false) := by simp only [i_GoodCopy, hb13, hb20, cond_true, cond_false, loopE_done, loopE_ret]
      rw [hM31]
      have q32 := Ex.trans (Ex.refl w) hE9
      have q33 := Ex.trans q32 hE12
      have q34 := Ex.trans q33 hE19
      exact ⟨rfl, q34⟩
  · skip
    refine SeqR.z rfl rfl rfl rfl rfl hb13 ?_
    refine SeqR.z rfl rfl rfl rfl rfl hb13 ?_
    refine SeqR.z rfl rfl rfl rfl rfl hb13 ?_
    refine SeqR.d1 rfl rfl rfl (yl_pick_f rfl rfl hb13 rfl ?_)
    refine SeqR.d1 rfl rfl rfl (yl_move rfl rfl ?_)
    refine SeqR.z rfl rfl rfl rfl rfl rfl ?_
    refine SeqR.z rfl rfl rfl rfl rfl rfl ?_
    refine SeqR.z rfl rfl rfl rfl rfl rfl ?_
    refine SeqR.z rfl rfl rfl rfl rfl rfl ?_
    refine SeqR.q rfl rfl rfl rfl rfl ?_
    refine SeqR.q rfl rfl rfl rfl rfl ?_
    refine SeqR.q rfl rfl rfl rfl rfl ?_
    refine SeqR.q rfl rfl rfl rfl rfl ?_
    refine SeqR.z rfl rfl rfl rfl rfl rfl ?_
    refine SeqR.d1 rfl rfl rfl (yl_pick_f rfl rfl rfl rfl ?_)
    refine SeqR.d1 rfl rfl rfl (yl_assign rfl rfl ?_)
    refine SeqR.done ?_
    refine tn ?_
    refine CW.ret ?_
    refine rr rfl (.cons rfl .nil) ?_
    have hM35 : (i_GoodCopy p_c) = (false) := by simp only [i_GoodCopy, hb13, cond_true, cond_false, loopE_done, loopE_ret]
    rw [hM35]
    have q36 := Ex.trans (Ex.refl w) hE9
    have q37 := Ex.trans q36 hE12
    exact ⟨rfl, q37⟩
set_option maxRecDepth 100000 in
set_option maxHeartbeats 2000000 in
theorem c_l_eqWrite {w : World} (p_a : DWrite) (p_b : DWrite) : Cal Try.prog 114 #[.agg #[.string (bs (p_a.Key)), .string (bs (p_a.Val)), .bool (p_a.Gone)], .agg #[.string (bs (p_b.Key)), .string (bs (p_b.Val)), .bool (p_b.Gone)]] w fun v w' => v = .bool ((l_eqWrite p_a p_b)) ∧ Ex w w' := by
  refine Cal.of (vs := [.agg #[.string (bs (p_a.Key)), .string (bs (p_a.Val)), .bool (p_a.Gone)], .agg #[.string (bs (p_b.Key)), .string (bs (p_b.Val)), .bool (p_b.Gone)]]) Try.func114 rfl Try.ntmps114 rfl ?_
  refine CW.seq ?_
  refine CW.region ?_
  refine SeqR.d1 rfl rfl rfl (yl_box (cs := [.string (bs (p_a.Key)), .string (bs (p_a.Val)), .bool (p_a.Gone)]) rfl rfl rfl ?_)
  intro b1 w2 hs3 hz4 hB5 hE6
  refine SeqR.d1 rfl rfl rfl (yl_box (cs := [.string (bs (p_b.Key)), .string (bs (p_b.Val)), .bool (p_b.Gone)]) rfl rfl rfl ?_)
  intro b7 w8 hs9 hz10 hB11 hE12
  refine SeqR.d1 rfl rfl rfl (yl_assign rfl rfl ?_)
  refine SeqR.done ?_
  refine tn ?_
  refine CW.seq ?_
  refine CW.seq ?_
  refine CW.region ?_
  refine SeqR.d1 rfl rfl rfl (yl_fieldAddr Try.fd139_0 rfl rfl ?_)
  have q13 := Box.ex hB5 hE12
  refine SeqR.d1 rfl rfl rfl (yl_load1 Try.ty9 rfl rfl ((q13.cell 0).trans rfl) ?_)
  refine SeqR.d1 rfl rfl rfl (yl_fieldAddr Try.fd139_0 rfl rfl ?_)
  refine SeqR.d1 rfl rfl rfl (yl_load1 Try.ty9 rfl rfl ((hB11.cell 0).trans rfl) ?_)
  refine SeqR.d1 rfl rfl rfl (yl_sneq (a := p_a.Key) (b := p_b.Key) rfl rfl rfl ?_)
  refine SeqR.done ?_
  refine tn ?_
  refine bcase (p_a.Key == p_b.Key) (fun hb14 => ?_) (fun hb14 => ?_)
  · skip
    refine CW.cond_f rfl (not_t hb14) ?_
    refine CW.skip ?_
    refine tn ?_
    refine CW.seq ?_
    refine CW.seq ?_
    refine CW.region ?_
    refine SeqR.d1 rfl rfl rfl (yl_fieldAddr Try.fd139_1 rfl rfl ?_)
    refine SeqR.d1 rfl rfl rfl (yl_load1 Try.ty9 rfl rfl ((q13.cell 1).trans rfl) ?_)
    refine SeqR.d1 rfl rfl rfl (yl_fieldAddr Try.fd139_1 rfl rfl ?_)
    refine SeqR.d1 rfl rfl rfl (yl_load1 Try.ty9 rfl rfl ((hB11.cell 1).trans rfl) ?_)
    refine SeqR.d1 rfl rfl rfl (yl_sneq (a := p_a.Val) (b := p_b.Val) rfl rfl rfl ?_)
    refine SeqR.done ?_
    refine tn ?_
    refine bcase (p_a.Val == p_b.Val) (fun hb15 => ?_) (fun hb15 => ?_)
    · skip
      refine CW.cond_f rfl (not_t hb15) ?_
      refine CW.skip ?_
      refine tn ?_
      refine CW.seq ?_
      refine CW.seq ?_
      refine CW.region ?_
      refine SeqR.d1 rfl rfl rfl (yl_fieldAddr Try.fd139_2 rfl rfl ?_)
      refine SeqR.d1 rfl rfl rfl (yl_load1 Try.ty4 rfl rfl ((q13.cell 2).trans rfl) ?_)
      refine SeqR.d1 rfl rfl rfl (yl_fieldAddr Try.fd139_2 rfl rfl ?_)
      refine SeqR.d1 rfl rfl rfl (yl_load1 Try.ty4 rfl rfl ((hB11.cell 2).trans rfl) ?_)
      refine SeqR.d1 rfl rfl rfl (yl_bneq Try.un4 rfl rfl rfl ?_)
      refine SeqR.done ?_
      refine tn ?_
      refine bcase (p_a.Gone == p_b.Gone) (fun hb16 => ?_) (fun hb16 => ?_)
      · skip
        refine CW.cond_f rfl (not_t hb16) ?_
        refine CW.skip ?_
        refine tn ?_
        refine CW.seq ?_
        refine CW.region ?_
        refine SeqR.d1 rfl rfl rfl (yl_assign rfl rfl ?_)
        refine SeqR.done ?_
        refine tn ?_
        refine CW.ret ?_
        refine rr rfl (.cons rfl .nil) ?_
        have hM17 : (l_eqWrite p_a p_b) = (true) := by simp only [l_eqWrite, hb14, hb15, hb16, cond_true, cond_false, loopE_done, loopE_ret]
        rw [hM17]
        have q18 := Ex.trans (Ex.refl w) hE6
        have q19 := Ex.trans q18 hE12
        exact ⟨rfl, q19⟩
      · skip
        refine CW.cond_t rfl (not_f hb16) ?_
        refine CW.seq ?_
        refine CW.region ?_
        refine SeqR.d1 rfl rfl rfl (yl_assign rfl rfl ?_)
        refine SeqR.done ?_
        refine tn ?_
        refine CW.ret ?_
        refine tr ?_
        refine rr rfl (.cons rfl .nil) ?_
        have hM20 : (l_eqWrite p_a p_b) = (false) := by simp only [l_eqWrite, hb14, hb15, hb16, cond_true, cond_false, loopE_done, loopE_ret]
        rw [hM20]
        have q21 := Ex.trans (Ex.refl w) hE6
        have q22 := Ex.trans q21 hE12
        exact ⟨rfl, q22⟩
    · skip
      refine CW.cond_t rfl (not_f hb15) ?_
      refine CW.seq ?_
      refine CW.region ?_
      refine SeqR.d1 rfl rfl rfl (yl_assign rfl rfl ?_)
      refine SeqR.done ?_
      refine tn ?_
      refine CW.ret ?_
      refine tr ?_
      refine rr rfl (.cons rfl .nil) ?_
      have hM23 : (l_eqWrite p_a p_b) = (false) := by simp only [l_eqWrite, hb14, hb15, cond_true, cond_false, loopE_done, loopE_ret]
      rw [hM23]
      have q24 := Ex.trans (Ex.refl w) hE6
      have q25 := Ex.trans q24 hE12
      exact ⟨rfl, q25⟩
  · skip
    refine CW.cond_t rfl (not_f hb14) ?_
    refine CW.seq ?_
    refine CW.region ?_
    refine SeqR.d1 rfl rfl rfl (yl_assign rfl rfl ?_)
    refine SeqR.done ?_
    refine tn ?_
    refine CW.ret ?_
    refine tr ?_
    refine rr rfl (.cons rfl .nil) ?_
    have hM26 : (l_eqWrite p_a p_b) = (false) := by simp only [l_eqWrite, hb14, cond_true, cond_false, loopE_done, loopE_ret]
    rw [hM26]
    have q27 := Ex.trans (Ex.refl w) hE6
    have q28 := Ex.trans q27 hE12
    exact ⟨rfl, q28⟩
set_option maxRecDepth 100000 in
set_option maxHeartbeats 2000000 in
theorem c_l_eqWriteS {A1 : Option Addr} {c1 : Nat} {A2 : Option Addr} {c2 : Nat} {w : World} (p_a : List DWrite) (p_b : List DWrite) (h1 : RdS w (Iv 0 w.heap.size) (RF e_Write) 3 A1 p_a.length c1 p_a) (h2 : RdS w (Iv 0 w.heap.size) (RF e_Write) 3 A2 p_b.length c2 p_b) : Cal Try.prog 88 #[.slice A1 p_a.length c1, .slice A2 p_b.length c2] w fun v w' => v = .bool ((l_eqWriteS p_a p_b)) ∧ Ex w w' := by
  refine Cal.of (vs := [.slice A1 p_a.length c1, .slice A2 p_b.length c2]) Try.func88 rfl Try.ntmps88 rfl ?_
  refine CW.seq ?_
  refine CW.region ?_
  refine SeqR.d1 rfl rfl rfl (yl_assign rfl rfl ?_)
  refine SeqR.done ?_
  refine tn ?_
  refine CW.seq ?_
  refine CW.seq ?_
  refine CW.region ?_
  refine SeqR.d1 rfl rfl rfl (yl_move rfl rfl ?_)
  refine SeqR.d1 rfl rfl rfl (yl_len Try.un67 rfl rfl ?_)
  refine SeqR.d1 rfl rfl rfl (yl_move rfl rfl ?_)
  refine SeqR.d1 rfl rfl rfl (yl_len Try.un67 rfl rfl ?_)
  refine SeqR.d1 rfl rfl rfl (yl_neq rfl rfl rfl ?_)
  refine SeqR.done ?_
  refine tn ?_
  refine bcase (decide ((p_a.length : Int) = (p_b.length : Int))) (fun hb3 => ?_) (fun hb3 => ?_)
  · have hb3p := dec_t hb3
    refine CW.cond_f rfl (not_t hb3) ?_
    refine CW.skip ?_
    refine tn ?_
    refine CW.seq ?_
    refine CW.seq ?_
    refine CW.region ?_
    refine SeqR.d1 rfl rfl rfl (yl_assign rfl rfl ?_)
    refine SeqR.done ?_
    refine tn ?_
    refine CW.block ?_
    refine CW.loop (fun m5 L6 w7 => ∃ (k4 : Nat), m5 = p_a.length - k4 ∧ k4 ≤ p_a.length ∧ lkp L6 0 = some (.slice A1 p_a.length c1) ∧ lkp L6 1 = some (.slice A2 p_b.length c2) ∧ lkp L6 5 = some (.int .i64 ((k4 : Int))) ∧ RdS w7 (Iv 0 w.heap.size) (RF e_Write) 3 A1 p_a.length c1 p_a ∧ RdS w7 (Iv 0 w.heap.size) (RF e_Write) 3 A2 p_b.length c2 p_b ∧ Ex w w7 ∧ loopM (B_l_eqWriteS_0 p_a p_b) (p_a.length - k4) k4 () = loopM (B_l_eqWriteS_0 p_a p_b) (p_a.length - 0) 0 ()) (p_a.length - 0) ?_ ?_
    · exact ⟨0, rfl, Nat.zero_le _, rfl, rfl, rfl, h1, h2, (Ex.refl w), rfl⟩
    · rintro m8 L9 w10 ⟨k4, rfl, hk11, hl13, hl14, hl15, hf16, hf17, hf18, hI12⟩
      refine CW.sub (Sub.cons hl13 (Sub.cons hl14 (Sub.cons hl15 (Sub.nil _)))) ?_
      have hf18z := Ex.size hf18
      have hbg19 := RdS.big hf16
      rcases Nat.lt_or_ge k4 p_a.length with hlt20 | hlt20
      · skip
        refine CW.seq ?_
        refine CW.seq ?_
        refine CW.region ?_
        refine SeqR.d1 rfl rfl rfl (yl_move rfl rfl ?_)
        refine SeqR.d1 rfl rfl rfl (yl_move rfl rfl ?_)
        refine SeqR.d1 rfl rfl rfl (yl_len Try.un67 rfl rfl ?_)
        refine SeqR.d1 rfl rfl rfl (yl_lss rfl rfl rfl ?_)
        refine SeqR.done ?_
        refine tn ?_
        refine CW.cond_t rfl (lt_t hlt20) ?_
        refine CW.skip ?_
        refine tn ?_
        refine CW.seq ?_
        refine CW.block ?_
        refine CW.seq ?_
        obtain ⟨eb21, eo21, ec21, eA21, eS21, ebl21, el21, eR21, eC21⟩ := RdS.atD hf16 d_Write (i := k4) (by first | omega | assumption)
        obtain rfl := eR21
        have eC21 : Cells w10 eb21 (eo21 + k4 * 3) [.string (bs ((p_a.getD k4 d_Write).Key)), .string (bs ((p_a.getD k4 d_Write).Val)), .bool ((p_a.getD k4 d_Write).Gone)] := eC21
        obtain ⟨eb22, eo22, ec22, eA22, eS22, ebl22, el22, eR22, eC22⟩ := RdS.atD hf17 d_Write (i := k4) (by first | omega | assumption)
        obtain rfl := eR22
        have eC22 : Cells w10 eb22 (eo22 + k4 * 3) [.string (bs ((p_b.getD k4 d_Write).Key)), .string (bs ((p_b.getD k4 d_Write).Val)), .bool ((p_b.getD k4 d_Write).Gone)] := eC22
        refine CW.drawsI 10 (vgetI [DetI (.slice A1 p_a.length c1), DetI (.int .i64 ((k4 : Int))), DetI (.pointer (some ⟨eb21, eo21 + k4 * 3, none⟩)), DetI (.agg #[.string (bs ((p_a.getD k4 d_Write).Key)), .string (bs ((p_a.getD k4 d_Write).Val)), .bool ((p_a.getD k4 d_Write).Gone)]), DetI (.slice A2 p_b.length c2), DetI (.int .i64 ((k4 : Int))), DetI (.pointer (some ⟨eb22, eo22 + k4 * 3, none⟩)), DetI (.agg #[.string (bs ((p_b.getD k4 d_Write).Key)), .string (bs ((p_b.getD k4 d_Write).Val)), .bool ((p_b.getD k4 d_Write).Gone)]), DetI (.bool ((l_eqWrite (p_a.getD k4 d_Write) (p_b.getD k4 d_Write)))), DetI (.bool (!(l_eqWrite (p_a.getD k4 d_Write) (p_b.getD k4 d_Write))))]) Try.follows rfl rfl rfl rfl rfl rfl (vgetI_stable ⟨StableI.det _, StableI.det _, StableI.det _, StableI.det _, StableI.det _, StableI.det _, StableI.det _, StableI.det _, StableI.det _, StableI.det _, trivial⟩) ⟨?_, ?_, ?_, ?_, ?_, ?_, ?_, ?_, ?_, ?_, trivial⟩ ?_
        · intro L24 w25 hi26
          have hE27 := hi26.ex
          have hE27z := Ex.size hE27
          have hx28 := hi26.old 0 _ rfl rfl
          exact OpR.op' rfl (Yl.sameI (yl_move rfl hx28 ⟨fun _ _ => rfl, rfl⟩))
        · intro L29 w30 hi31
          have hE32 := hi31.ex
          have hE32z := Ex.size hE32
          have hx33 := hi31.old 5 _ rfl rfl
          exact OpR.op' rfl (Yl.sameI (yl_move rfl hx33 ⟨fun _ _ => rfl, rfl⟩))
        · intro L34 w35 hi36
          have hE37 := hi36.ex
          have hE37z := Ex.size hE37
          obtain ⟨_, _, _, hx38, -, -, -, rfl⟩ := hi36.dep 0 17 rfl rfl
          obtain ⟨_, _, _, hx39, -, -, -, rfl⟩ := hi36.dep 1 18 rfl rfl
          exact OpR.op' rfl (Yl.sameI (yl_indexAddrN Try.un67 Try.ty139 rfl hx38 hx39 eA21 (by first | omega | assumption | (simp only [IntKind.wrap_i64] at *; omega)) ⟨fun _ _ => rfl, rfl⟩))
        · intro L40 w41 hi42
          have hE43 := hi42.ex
          have hE43z := Ex.size hE43
          obtain ⟨_, _, _, hx44, -, -, -, rfl⟩ := hi42.dep 2 19 rfl rfl
          have q45 := Cells.ex eC21 hE43
          exact OpR.op' rfl (Yl.sameI (yl_loadN (cs := [.string (bs ((p_a.getD k4 d_Write).Key)), .string (bs ((p_a.getD k4 d_Write).Val)), .bool ((p_a.getD k4 d_Write).Gone)]) Try.ty139 rfl hx44 q45 rfl ⟨fun _ _ => rfl, rfl⟩))
        · intro L46 w47 hi48
          have hE49 := hi48.ex
          have hE49z := Ex.size hE49
          have hx50 := hi48.old 1 _ rfl rfl
          exact OpR.op' rfl (Yl.sameI (yl_move rfl hx50 ⟨fun _ _ => rfl, rfl⟩))
        · intro L51 w52 hi53
          have hE54 := hi53.ex
          have hE54z := Ex.size hE54
          have hx55 := hi53.old 5 _ rfl rfl
          exact OpR.op' rfl (Yl.sameI (yl_move rfl hx55 ⟨fun _ _ => rfl, rfl⟩))
        · intro L56 w57 hi58
          have hE59 := hi58.ex
          have hE59z := Ex.size hE59
          obtain ⟨_, _, _, hx60, -, -, -, rfl⟩ := hi58.dep 4 21 rfl rfl
          obtain ⟨_, _, _, hx61, -, -, -, rfl⟩ := hi58.dep 5 22 rfl rfl
          exact OpR.op' rfl (Yl.sameI (yl_indexAddrN Try.un67 Try.ty139 rfl hx60 hx61 eA22 (by first | omega | assumption | (simp only [IntKind.wrap_i64] at *; omega)) ⟨fun _ _ => rfl, rfl⟩))
        · intro L62 w63 hi64
          have hE65 := hi64.ex
          have hE65z := Ex.size hE65
          obtain ⟨_, _, _, hx66, -, -, -, rfl⟩ := hi64.dep 6 23 rfl rfl
          have q67 := Cells.ex eC22 hE65
          exact OpR.op' rfl (Yl.sameI (yl_loadN (cs := [.string (bs ((p_b.getD k4 d_Write).Key)), .string (bs ((p_b.getD k4 d_Write).Val)), .bool ((p_b.getD k4 d_Write).Gone)]) Try.ty139 rfl hx66 q67 rfl ⟨fun _ _ => rfl, rfl⟩))
        · intro L68 w69 hi70
          have hE71 := hi70.ex
          have hE71z := Ex.size hE71
          obtain ⟨_, _, _, hx72, -, -, -, rfl⟩ := hi70.dep 3 20 rfl rfl
          obtain ⟨_, _, _, hx73, -, -, -, rfl⟩ := hi70.dep 7 24 rfl rfl
          refine OpR.op' rfl (yl_call Try.en114 rfl (opvs_cons hx72 (opvs_cons hx73 opvs_nil)) (Cal.mono (c_l_eqWrite (p_a.getD k4 d_Write) (p_b.getD k4 d_Write)) ?_))
          rintro v75 w74 ⟨rfl, hE76⟩
          exact ⟨rfl, hE76⟩
        · intro L77 w78 hi79
          have hE80 := hi79.ex
          have hE80z := Ex.size hE80
          obtain ⟨_, _, _, hx81, -, -, -, rfl⟩ := hi79.dep 8 25 rfl rfl
          exact OpR.op' rfl (Yl.sameI (yl_not rfl hx81 ⟨fun _ _ => rfl, rfl⟩))
        · intro fl85 fh86 L82 w83 hp84
          have hE87 := hp84.ex
          have hE87z := Ex.size hE87
          have hx88 := hp84.old 0 _ rfl rfl
          have hx89 := hp84.old 1 _ rfl rfl
          have hx90 := hp84.old 5 _ rfl rfl
          obtain ⟨_, hx91, rfl⟩ := hp84.new 9 26 rfl rfl
          refine SeqR.done ?_
          refine tn ?_
          refine CW.sub (Sub.cons (d := 0) hx88 (Sub.cons (d := 1) hx89 (Sub.cons (d := 5) hx90 (Sub.cons (d := 26) hx91 (Sub.nil _))))) ?_
          refine bcase (l_eqWrite (p_a.getD k4 d_Write) (p_b.getD k4 d_Write)) (fun hb92 => ?_) (fun hb92 => ?_)
          · skip
            refine CW.cond_f rfl (not_t hb92) ?_
            refine CW.skip ?_
            refine bn ?_
            refine tn ?_
            refine CW.region ?_
            refine SeqR.d1 rfl rfl rfl (yl_move rfl rfl ?_)
            refine SeqR.d1 rfl rfl rfl (yl_inc rfl rfl rfl (by omega) ?_)
            refine SeqR.d1 rfl rfl rfl (yl_assign rfl rfl ?_)
            refine SeqR.done ?_
            refine tn ?_
            have hB93 : B_l_eqWriteS_0 p_a p_b k4 () = .cont () := by simp only [B_l_eqWriteS_0, hb3, hb92, cond_true, cond_false, loopE_done, loopE_ret]
            have q94 := RdS.ex good_Write hf16 hE87
            have q95 := RdS.ex good_Write hf17 hE87
            have q96 := Ex.trans hf18 hE87
            exact ⟨p_a.length - (k4 + 1), by omega, k4 + 1, rfl, hlt20, rfl, rfl, rfl, q94, q95, q96, (loopM.cont hlt20 hB93).symm.trans hI12⟩
          · skip
            refine CW.cond_t rfl (not_f hb92) ?_
            refine CW.seq ?_
            refine CW.region ?_
            refine SeqR.d1 rfl rfl rfl (yl_assign rfl rfl ?_)
            refine SeqR.done ?_
            refine tn ?_
            refine CW.ret ?_
            refine br ?_
            refine tr ?_
            refine tr ?_
            have hB98 : B_l_eqWriteS_0 p_a p_b k4 () = .ret false := by simp only [B_l_eqWriteS_0, hb3, hb92, cond_true, cond_false, loopE_done, loopE_ret]
            have hL97 : loopM (B_l_eqWriteS_0 p_a p_b) (p_a.length - 0) 0 () = .ret false := hI12.symm.trans (loopM.ret hlt20 hB98)
            refine br ?_
            refine tr ?_
            refine rr rfl (.cons rfl .nil) ?_
            have hM99 : (l_eqWriteS p_a p_b) = (false) := by simp only [l_eqWriteS, hb3, hb92, hL97, cond_true, cond_false, loopE_done, loopE_ret]
            rw [hM99]
            have q100 := Ex.trans hf18 hE87
            exact ⟨rfl, q100⟩
      · skip
        refine CW.seq ?_
        refine CW.seq ?_
        refine CW.region ?_
        refine SeqR.d1 rfl rfl rfl (yl_move rfl rfl ?_)
        refine SeqR.d1 rfl rfl rfl (yl_move rfl rfl ?_)
        refine SeqR.d1 rfl rfl rfl (yl_len Try.un67 rfl rfl ?_)
        refine SeqR.d1 rfl rfl rfl (yl_lss rfl rfl rfl ?_)
        refine SeqR.done ?_
        refine tn ?_
        refine CW.cond_f rfl (lt_f hlt20) ?_
        refine CW.exit ?_
        refine tx ?_
        refine tx ?_
        have hL101 : loopM (B_l_eqWriteS_0 p_a p_b) (p_a.length - 0) 0 () = .done () := hI12.symm.trans (loopM.stop hlt20)
        refine bx ?_
        refine tn ?_
        refine CW.seq ?_
        refine CW.region ?_
        refine SeqR.d1 rfl rfl rfl (yl_assign rfl rfl ?_)
        refine SeqR.done ?_
        refine tn ?_
        refine CW.ret ?_
        refine rr rfl (.cons rfl .nil) ?_
        have hM102 : (l_eqWriteS p_a p_b) = (true) := by simp only [l_eqWriteS, hb3, hL101, cond_true, cond_false, loopE_done, loopE_ret]
        rw [hM102]
        exact ⟨rfl, hf18⟩
  · have hb3p := dec_f hb3
    refine CW.cond_t rfl (not_f hb3) ?_
    refine CW.seq ?_
    refine CW.region ?_
    refine SeqR.d1 rfl rfl rfl (yl_assign rfl rfl ?_)
    refine SeqR.done ?_
    refine tn ?_
    refine CW.ret ?_
    refine tr ?_
    refine rr rfl (.cons rfl .nil) ?_
    have hM103 : (l_eqWriteS p_a p_b) = (false) := by simp only [l_eqWriteS, hb3, cond_true, cond_false, loopE_done, loopE_ret]
    rw [hM103]
    exact ⟨rfl, (Ex.refl w)⟩
set_option maxRecDepth 100000 in
set_option maxHeartbeats 2000000 in
theorem c_l_eqCopy {A1 : Option Addr} {c1 : Nat} {A2 : Option Addr} {c2 : Nat} {w : World} (p_a : DCopy) (p_b : DCopy) (h1 : RdS w (Iv 0 w.heap.size) (RF e_Write) 3 A1 p_a.Rows.length c1 p_a.Rows) (h2 : RdS w (Iv 0 w.heap.size) (RF e_Write) 3 A2 p_b.Rows.length c2 p_b.Rows) : Cal Try.prog 41 #[.agg #[.int .i64 (p_a.Time), .slice A1 p_a.Rows.length c1], .agg #[.int .i64 (p_b.Time), .slice A2 p_b.Rows.length c2]] w fun v w' => v = .bool ((l_eqCopy p_a p_b)) ∧ Ex w w' := by
  refine Cal.of (vs := [.agg #[.int .i64 (p_a.Time), .slice A1 p_a.Rows.length c1], .agg #[.int .i64 (p_b.Time), .slice A2 p_b.Rows.length c2]]) Try.func41 rfl Try.ntmps41 rfl ?_
  refine CW.seq ?_
  refine CW.region ?_
  refine SeqR.d1 rfl rfl rfl (yl_box (cs := [.int .i64 (p_a.Time), .slice A1 p_a.Rows.length c1]) rfl rfl rfl ?_)
  intro b3 w4 hs5 hz6 hB7 hE8
  refine SeqR.d1 rfl rfl rfl (yl_box (cs := [.int .i64 (p_b.Time), .slice A2 p_b.Rows.length c2]) rfl rfl rfl ?_)
  intro b9 w10 hs11 hz12 hB13 hE14
  refine SeqR.d1 rfl rfl rfl (yl_assign rfl rfl ?_)
  refine SeqR.done ?_
  refine tn ?_
  refine CW.seq ?_
  refine CW.seq ?_
  refine CW.region ?_
  refine SeqR.d1 rfl rfl rfl (yl_fieldAddr Try.fd69_0 rfl rfl ?_)
  have q15 := Box.ex hB7 hE14
  refine SeqR.d1 rfl rfl rfl (yl_load1 Try.ty3 rfl rfl ((q15.cell 0).trans rfl) ?_)
  refine SeqR.d1 rfl rfl rfl (yl_fieldAddr Try.fd69_0 rfl rfl ?_)
  refine SeqR.d1 rfl rfl rfl (yl_load1 Try.ty3 rfl rfl ((hB13.cell 0).trans rfl) ?_)
  refine SeqR.d1 rfl rfl rfl (yl_neq rfl rfl rfl ?_)
  refine SeqR.done ?_
  refine tn ?_
  refine bcase (decide (p_a.Time = p_b.Time)) (fun hb16 => ?_) (fun hb16 => ?_)
  · have hb16p := dec_t hb16
    refine CW.cond_f rfl (not_t hb16) ?_
    refine CW.skip ?_
    refine tn ?_
    refine CW.seq ?_
    refine CW.seq ?_
    refine CW.region ?_
    refine SeqR.d1 rfl rfl rfl (yl_fieldAddr Try.fd69_1 rfl rfl ?_)
    refine SeqR.d1 rfl rfl rfl (yl_load1 Try.ty67 rfl rfl ((q15.cell 1).trans rfl) ?_)
    refine SeqR.d1 rfl rfl rfl (yl_fieldAddr Try.fd69_1 rfl rfl ?_)
    refine SeqR.d1 rfl rfl rfl (yl_load1 Try.ty67 rfl rfl ((hB13.cell 1).trans rfl) ?_)
    have q17 := RdS.ex good_Write h1 hE8
    have q18 := RdS.ex good_Write q17 hE14
    have q19 := RdS.ex good_Write h2 hE8
    have q20 := RdS.ex good_Write q19 hE14
    refine SeqR.d1 rfl rfl rfl (yl_call Try.en88 rfl (opvs_cons rfl (opvs_cons rfl opvs_nil)) (Cal.mono (c_l_eqWriteS p_a.Rows p_b.Rows (RdS.up q18 good_Write) (RdS.up q20 good_Write)) ?_))
    rintro v22 w21 ⟨rfl, hE23⟩
    have hE23z := Ex.size hE23
    refine SeqR.d1 rfl rfl rfl (yl_not rfl rfl ?_)
    refine SeqR.done ?_
    refine tn ?_
    refine bcase (l_eqWriteS p_a.Rows p_b.Rows) (fun hb24 => ?_) (fun hb24 => ?_)
    · skip
      refine CW.cond_f rfl (not_t hb24) ?_
      refine CW.skip ?_
      refine tn ?_
      refine CW.seq ?_
      refine CW.region ?_
      refine SeqR.d1 rfl rfl rfl (yl_assign rfl rfl ?_)
      refine SeqR.done ?_
      refine tn ?_
      refine CW.ret ?_
      refine rr rfl (.cons rfl .nil) ?_
      have hM25 : (l_eqCopy p_a p_b) = (true) := by simp only [l_eqCopy, hb16, hb24, cond_true, cond_false, loopE_done, loopE_ret]
      rw [hM25]
      have q26 := Ex.trans (Ex.refl w) hE8
      have q27 := Ex.trans q26 hE14
      have q28 := Ex.trans q27 hE23
      exact ⟨rfl, q28⟩
    · skip
      refine CW.cond_t rfl (not_f hb24) ?_
      refine CW.seq ?_
      refine CW.region ?_
      refine SeqR.d1 rfl rfl rfl (yl_assign rfl rfl ?_)
      refine SeqR.done ?_
      refine tn ?_
      refine CW.ret ?_
      refine tr ?_
      refine rr rfl (.cons rfl .nil) ?_
      have hM29 : (l_eqCopy p_a p_b) = (false) := by simp only [l_eqCopy, hb16, hb24, cond_true, cond_false, loopE_done, loopE_ret]
      rw [hM29]
      have q30 := Ex.trans (Ex.refl w) hE8
      have q31 := Ex.trans q30 hE14
      have q32 := Ex.trans q31 hE23
      exact ⟨rfl, q32⟩
  · have hb16p := dec_f hb16
    refine CW.cond_t rfl (not_f hb16) ?_
    refine CW.seq ?_
    refine CW.region ?_
    refine SeqR.d1 rfl rfl rfl (yl_assign rfl rfl ?_)
    refine SeqR.done ?_
    refine tn ?_
    refine CW.ret ?_
    refine tr ?_
    refine rr rfl (.cons rfl .nil) ?_
    have hM33 : (l_eqCopy p_a p_b) = (false) := by simp only [l_eqCopy, hb16, cond_true, cond_false, loopE_done, loopE_ret]
    rw [hM33]
    have q34 := Ex.trans (Ex.refl w) hE8
    have q35 := Ex.trans q34 hE14
    exact ⟨rfl, q35⟩
set_option maxRecDepth 100000 in
set_option maxHeartbeats 2000000 in
theorem c_l_FnExactGoodCopy {A1 : Option Addr} {c1 : Nat} {w : World} (p_aC : DCopy) (h1 : RdS w (Iv 0 w.heap.size) (RF e_Write) 3 A1 p_aC.Rows.length c1 p_aC.Rows) (pre0 : wf_Copy p_aC) : Cal Try.prog 11 #[.agg #[.int .i64 (p_aC.Time), .slice A1 p_aC.Rows.length c1]] w fun v w' => v = .bool ((l_FnExactGoodCopy p_aC)) ∧ Ex w w' := by
  refine Cal.of (vs := [.agg #[.int .i64 (p_aC.Time), .slice A1 p_aC.Rows.length c1]]) Try.func11 rfl Try.ntmps11 rfl ?_
  refine CW.seq ?_
  refine CW.region ?_
  refine SeqR.d1 rfl rfl rfl (yl_box (cs := [.int .i64 (p_aC.Time), .slice A1 p_aC.Rows.length c1]) rfl rfl rfl ?_)
  intro b2 w3 hs4 hz5 hB6 hE7
  refine SeqR.d1 rfl rfl rfl (yl_assign rfl rfl ?_)
  refine SeqR.done ?_
  refine tn ?_
  refine CW.seq ?_
  refine CW.region ?_
  refine SeqR.d1 rfl rfl rfl (yl_assign rfl rfl ?_)
  refine SeqR.done ?_
  refine tn ?_
  refine CW.seq ?_
  refine CW.region ?_
  refine SeqR.d1 rfl rfl rfl (yl_loadN (cs := [.int .i64 (p_aC.Time), .slice A1 p_aC.Rows.length c1]) Try.ty64 rfl rfl (hB6.cells (n := 2) rfl) rfl ?_)
  refine SeqR.d1 rfl rfl rfl (yl_move rfl rfl ?_)
  have q8 := RdS.ex good_Write h1 hE7
  refine SeqR.d1 rfl rfl rfl (yl_call Try.en37 rfl (opvs_cons rfl (opvs_cons rfl opvs_nil)) (Cal.mono (c_l_szCopy p_aC 1048576 (RdS.up q8 good_Write)) ?_))
  rintro v10 w9 ⟨rfl, hE11⟩
  have hE11z := Ex.size hE11
  refine SeqR.d1 rfl rfl rfl (yl_assign rfl rfl ?_)
  refine SeqR.done ?_
  refine tn ?_
  refine CW.seq ?_
  refine CW.seq ?_
  refine CW.region ?_
  refine SeqR.d1 rfl rfl rfl (yl_move rfl rfl ?_)
  refine SeqR.d1 rfl rfl rfl (yl_lss rfl rfl rfl ?_)
  refine SeqR.done ?_
  refine tn ?_
  refine bcase (decide ((l_szCopy p_aC 1048576) < 0)) (fun hb12 => ?_) (fun hb12 => ?_)
  · have hb12p := dec_t hb12
    refine CW.cond_t rfl hb12 ?_
    refine CW.seq ?_
    refine CW.region ?_
    refine SeqR.d1 rfl rfl rfl (yl_assign rfl rfl ?_)
    refine SeqR.done ?_
    refine tn ?_
    refine CW.ret ?_
    refine tr ?_
    refine rr rfl (.cons rfl .nil) ?_
    have hM13 : (l_FnExactGoodCopy p_aC) = (true) := by simp only [l_FnExactGoodCopy, hb12, cond_true, cond_false, loopE_done, loopE_ret]
    rw [hM13]
    have q14 := Ex.trans (Ex.refl w) hE7
    have q15 := Ex.trans q14 hE11
    exact ⟨rfl, q15⟩
  · have hb12p := dec_f hb12
    refine CW.cond_f rfl hb12 ?_
    refine CW.skip ?_
    refine tn ?_
    refine CW.seq ?_
    refine CW.region ?_
    have q16 := Box.ex hB6 hE11
    refine SeqR.d1 rfl rfl rfl (yl_loadN (cs := [.int .i64 (p_aC.Time), .slice A1 p_aC.Rows.length c1]) Try.ty64 rfl rfl (q16.cells (n := 2) rfl) rfl ?_)
    have q17 := RdS.ex good_Write q8 hE11
    refine SeqR.d1 rfl rfl rfl (yl_call Try.en39 rfl (opvs_cons rfl opvs_nil) (Cal.mono (c_l_toCopy p_aC (RdS.up q17 good_Write) ((szok_Copy pre0 (by decide) (dec_f hb12)).1)) ?_))
    rintro v20 w18 ⟨A19, c19, rfl, h19, hE21⟩
    have hE21z := Ex.size hE21
    refine SeqR.d1 rfl rfl rfl (yl_call Try.en38 rfl (opvs_cons rfl opvs_nil) (Cal.mono (c_s_GoodCopy p_aC (RdS.up h19 good_Write) ((szok_Copy pre0 (by decide) (dec_f hb12)).1)) ?_))
    rintro v23 w22 ⟨rfl, hE24⟩
    have hE24z := Ex.size hE24
    refine SeqR.d1 rfl rfl rfl (yl_assign rfl rfl ?_)
    refine SeqR.done ?_
    refine tn ?_
    refine CW.seq ?_
    refine CW.region ?_
    have q25 := Box.ex q16 hE21
    have q26 := Box.ex q25 hE24
    refine SeqR.d1 rfl rfl rfl (yl_loadN (cs := [.int .i64 (p_aC.Time), .slice A1 p_aC.Rows.length c1]) Try.ty64 rfl rfl (q26.cells (n := 2) rfl) rfl ?_)
    have q27 := RdS.ex good_Write q17 hE21
    have q28 := RdS.ex good_Write q27 hE24
    refine SeqR.d1 rfl rfl rfl (yl_call Try.en39 rfl (opvs_cons rfl opvs_nil) (Cal.mono (c_l_toCopy p_aC (RdS.up q28 good_Write) ((szok_Copy pre0 (by decide) (dec_f hb12)).1)) ?_))
    rintro v31 w29 ⟨A30, c30, rfl, h30, hE32⟩
    have hE32z := Ex.size hE32
    refine SeqR.d1 rfl rfl rfl (yl_alloc Try.ty69 (cs := [.int .i64 (0), .slice none 0 0]) rfl rfl ?_)
    intro b33 w34 hs35 hz36 hB37 hE38
    refine SeqR.u rfl rfl (yl_store (vs := [.int .i64 (p_aC.Time), .slice A30 p_aC.Rows.length c30]) Try.ty69 rfl rfl rfl rfl rfl rfl hB37 (Nat.le_of_ble_eq_true rfl) ?_)
    intro w39 hB40 hO41
    have hB40 : Box w39 b33 69 [.int .i64 (p_aC.Time), .slice A30 p_aC.Rows.length c30] := hB40
    have hO41z := hO41.size
    refine SeqR.done ?_
    refine tn ?_
    refine CW.seq ?_
    refine CW.region ?_
    refine SeqR.d1 rfl rfl rfl (yl_loadN (cs := [.int .i64 (p_aC.Time), .slice A30 p_aC.Rows.length c30]) Try.ty69 rfl rfl (hB40.cells (n := 2) rfl) rfl ?_)
    have q42 := RdS.ex good_Write h30 hE38
    have q43 := RdS.only good_Write q42 hO41 (by simp only [Iv]; omega)
    refine SeqR.d1 rfl rfl rfl (yl_call Try.en40 rfl (opvs_cons rfl opvs_nil) (Cal.mono (c_i_GoodCopy p_aC (RdS.up q43 good_Write) ((szok_Copy pre0 (by decide) (dec_f hb12)).1)) ?_))
    rintro v45 w44 ⟨rfl, hE46⟩
    have hE46z := Ex.size hE46
    refine SeqR.d1 rfl rfl rfl (yl_assign rfl rfl ?_)
    refine SeqR.done ?_
    refine tn ?_
    refine CW.seq ?_
    refine CW.seq ?_
    refine CW.region ?_
    refine SeqR.d1 rfl rfl rfl (yl_move rfl rfl ?_)
    refine SeqR.d1 rfl rfl rfl (yl_move rfl rfl ?_)
    refine SeqR.d1 rfl rfl rfl (yl_bneq Try.un4 rfl rfl rfl ?_)
    refine SeqR.done ?_
    refine tn ?_
    refine bcase ((i_GoodCopy p_aC) == (s_GoodCopy p_aC)) (fun hb47 => ?_) (fun hb47 => ?_)
    · skip
      refine CW.cond_f rfl (not_t hb47) ?_
      refine CW.skip ?_
      refine tn ?_
      refine CW.seq ?_
      refine CW.seq ?_
      have q48 := Box.ex hB40 hE46
      have q49 := Box.ex q26 hE32
      have q50 := Box.ex q49 hE38
      have q51 := Box.only q50 hO41 (by omega)
      have q52 := Box.ex q51 hE46
      have q53 := RdS.ex good_Write q28 hE32
      have q54 := RdS.ex good_Write q53 hE38
      have q55 := RdS.only good_Write q54 hO41 (by simp only [Iv]; omega)
      have q56 := RdS.ex good_Write q55 hE46
      have q59 := RdS.ex good_Write q43 hE46
      refine CW.drawsI 5 (vgetI [DetI (.agg #[.int .i64 (p_aC.Time), .slice A30 p_aC.Rows.length c30]), DetI (.agg #[.int .i64 (p_aC.Time), .slice A1 p_aC.Rows.length c1]), OpqI fun v w => ∃ A58 c58, v = .agg #[.int .i64 (p_aC.Time), .slice A58 p_aC.Rows.length c58] ∧ RdS w (Ge w44.heap.size) (RF e_Write) 3 A58 p_aC.Rows.length c58 p_aC.Rows, DetI (.bool ((l_eqCopy p_aC p_aC))), DetI (.bool (!(l_eqCopy p_aC p_aC)))]) Try.follows rfl rfl rfl rfl rfl rfl (vgetI_stable ⟨StableI.det _, StableI.det _, (fun _ _ _ _ _ ⟨A58, c58, hv, h58⟩ e => ⟨A58, c58, hv, RdS.ex good_Write h58 e⟩), StableI.det _, StableI.det _, trivial⟩) ⟨?_, ?_, ?_, ?_, ?_, trivial⟩ ?_
      · intro L61 w62 hi63
        have hE64 := hi63.ex
        have hE64z := Ex.size hE64
        have hx65 := hi63.old 5 _ rfl rfl
        have q66 := Box.ex q48 hE64
        exact OpR.op' rfl (Yl.sameI (yl_loadN (cs := [.int .i64 (p_aC.Time), .slice A30 p_aC.Rows.length c30]) Try.ty69 rfl hx65 (q66.cells (n := 2) rfl) rfl ⟨fun _ _ => rfl, rfl⟩))
      · intro L67 w68 hi69
        have hE70 := hi69.ex
        have hE70z := Ex.size hE70
        have hx71 := hi69.old 1 _ rfl rfl
        have q72 := Box.ex q52 hE70
        exact OpR.op' rfl (Yl.sameI (yl_loadN (cs := [.int .i64 (p_aC.Time), .slice A1 p_aC.Rows.length c1]) Try.ty64 rfl hx71 (q72.cells (n := 2) rfl) rfl ⟨fun _ _ => rfl, rfl⟩))
      · intro L73 w74 hi75
        have hE76 := hi75.ex
        have hE76z := Ex.size hE76
        obtain ⟨_, _, _, hx77, -, -, -, rfl⟩ := hi75.dep 1 23 rfl rfl
        have q78 := RdS.ex good_Write q56 hE76
        refine OpR.op' rfl (yl_call Try.en39 rfl (opvs_cons hx77 opvs_nil) (Cal.mono (c_l_toCopy p_aC (RdS.up q78 good_Write) ((szok_Copy pre0 (by decide) (dec_f hb12)).1)) ?_))
        rintro v81 w79 ⟨A80, c80, rfl, h80, hE82⟩
        exact ⟨⟨A80, c80, rfl, RdS.wide good_Write h80 (fun _ hh _ => Nat.le_trans hE76z hh.1)⟩, hE82⟩
      · intro L83 w84 hi85
        have hE86 := hi85.ex
        have hE86z := Ex.size hE86
        obtain ⟨_, _, _, hx87, -, -, -, rfl⟩ := hi85.dep 0 22 rfl rfl
        obtain ⟨_, _, _, hx88, -, -, -, A58_89, c58_90, rfl, h91⟩ := hi85.dep 2 24 rfl rfl
        have q92 := RdS.ex good_Write q59 hE86
        refine OpR.op' rfl (yl_call Try.en41 rfl (opvs_cons hx87 (opvs_cons hx88 opvs_nil)) (Cal.mono (c_l_eqCopy p_aC p_aC (RdS.up q92 good_Write) (RdS.up h91 good_Write)) ?_))
        rintro v94 w93 ⟨rfl, hE95⟩
        exact ⟨rfl, hE95⟩
      · intro L96 w97 hi98
        have hE99 := hi98.ex
        have hE99z := Ex.size hE99
        obtain ⟨_, _, _, hx100, -, -, -, rfl⟩ := hi98.dep 3 25 rfl rfl
        exact OpR.op' rfl (Yl.sameI (yl_not rfl hx100 ⟨fun _ _ => rfl, rfl⟩))
      · intro fl104 fh105 L101 w102 hp103
        have hE106 := hp103.ex
        have hE106z := Ex.size hE106
        obtain ⟨_, hx107, rfl⟩ := hp103.new 4 26 rfl rfl
        refine SeqR.done ?_
        refine tn ?_
        refine CW.sub (Sub.cons (d := 26) hx107 (Sub.nil _)) ?_
        refine bcase (l_eqCopy p_aC p_aC) (fun hb108 => ?_) (fun hb108 => ?_)
        · skip
          refine CW.cond_f rfl (not_t hb108) ?_
          refine CW.skip ?_
          refine tn ?_
          refine CW.seq ?_
          refine CW.region ?_
          refine SeqR.d1 rfl rfl rfl (yl_assign rfl rfl ?_)
          refine SeqR.done ?_
          refine tn ?_
          refine CW.ret ?_
          refine rr rfl (.cons rfl .nil) ?_
          have hM109 : (l_FnExactGoodCopy p_aC) = (true) := by simp only [l_FnExactGoodCopy, hb12, hb47, hb108, cond_true, cond_false, loopE_done, loopE_ret]
          rw [hM109]
          have q110 := Ex.trans (Ex.refl w) hE7
          have q111 := Ex.trans q110 hE11
          have q112 := Ex.trans q111 hE21
          have q113 := Ex.trans q112 hE24
          have q114 := Ex.trans q113 hE32
          have q115 := Ex.trans q114 hE38
          have q116 := Below.only q115 hO41 (by omega)
          have q117 := Ex.trans q116 hE46
          have q118 := Ex.trans q117 hE106
          exact ⟨rfl, q118⟩
        · skip
          refine CW.cond_t rfl (not_f hb108) ?_
          refine CW.seq ?_
          refine CW.region ?_
          refine SeqR.d1 rfl rfl rfl (yl_assign rfl rfl ?_)
          refine SeqR.done ?_
          refine tn ?_
          refine CW.ret ?_
          refine tr ?_
          refine rr rfl (.cons rfl .nil) ?_
          have hM119 : (l_FnExactGoodCopy p_aC) = (false) := by simp only [l_FnExactGoodCopy, hb12, hb47, hb108, cond_true, cond_false, loopE_done, loopE_ret]
          rw [hM119]
          have q120 := Ex.trans (Ex.refl w) hE7
          have q121 := Ex.trans q120 hE11
          have q122 := Ex.trans q121 hE21
          have q123 := Ex.trans q122 hE24
          have q124 := Ex.trans q123 hE32
          have q125 := Ex.trans q124 hE38
          have q126 := Below.only q125 hO41 (by omega)
          have q127 := Ex.trans q126 hE46
          have q128 := Ex.trans q127 hE106
          exact ⟨rfl, q128⟩
    · skip
      refine CW.cond_t rfl (not_f hb47) ?_
      refine CW.seq ?_
      refine CW.region ?_
      refine SeqR.d1 rfl rfl rfl (yl_assign rfl rfl ?_)
      refine SeqR.done ?_
      refine tn ?_
      refine CW.ret ?_
      refine tr ?_
      refine rr rfl (.cons rfl .nil) ?_
      have hM129 : (l_FnExactGoodCopy p_aC) = (false) := by simp only [l_FnExactGoodCopy, hb12, hb47, cond_true, cond_false, loopE_done, loopE_ret]
      rw [hM129]
      have q130 := Ex.trans (Ex.refl w) hE7
      have q131 := Ex.trans q130 hE11
      have q132 := Ex.trans q131 hE21
      have q133 := Ex.trans q132 hE24
      have q134 := Ex.trans q133 hE32
      have q135 := Ex.trans q134 hE38
      have q136 := Below.only q135 hO41 (by omega)
      have q137 := Ex.trans q136 hE46
      exact ⟨rfl, q137⟩
end Go.Proofs.Ytnfjabkdlkejkaa
