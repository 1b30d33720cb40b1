/- Powers At: what each call returns, part 1. -/
import Derived.Test.YtnfjabkdlkejkaaPowersAtL
import Derived.Test.YtnfjabkdlkejkaaPowersAtF
namespace Go.Proofs.Ytnfjabkdlkejkaa
open Go.RowKit Go.X
set_option maxRecDepth 100000 in
set_option maxHeartbeats 2000000 in
theorem c_s_l1In {w : World} (p_n : Int) (p_lo : Int) (p_hi : Int) : Cal Try.prog 50 #[.int .i64 (p_n), .int .i64 (p_lo), .int .i64 (p_hi)] w fun v w' => v = .bool ((s_l1In p_n p_lo p_hi)) ∧ Ex w w' := by
  refine Cal.of (vs := [.int .i64 (p_n), .int .i64 (p_lo), .int .i64 (p_hi)]) Try.func50 rfl Try.ntmps50 rfl ?_
  refine CW.seq ?_
  refine CW.region ?_
  refine SeqR.d1 rfl rfl rfl (yl_assign rfl rfl ?_)
  refine SeqR.done ?_
  refine tn ?_
  refine CW.seq ?_
  refine CW.region ?_
  refine SeqR.d1 rfl rfl rfl (yl_move rfl rfl ?_)
  refine SeqR.d1 rfl rfl rfl (yl_move rfl rfl ?_)
  refine SeqR.d1 rfl rfl rfl (yl_geq rfl rfl rfl ?_)
  refine SeqR.d1 rfl rfl rfl (yl_move rfl rfl ?_)
  refine bcase (decide (p_lo ≤ p_n)) (fun hb1 => ?_) (fun hb1 => ?_)
  · have hb1p := dec_t hb1
    refine SeqR.y rfl rfl rfl rfl rfl hb1 (yl_move rfl rfl ?_)
    refine SeqR.y rfl rfl rfl rfl rfl hb1 (yl_move rfl rfl ?_)
    refine SeqR.y rfl rfl rfl rfl rfl hb1 (yl_leq rfl rfl rfl ?_)
    refine SeqR.d1 rfl rfl rfl (yl_pick_t rfl rfl hb1 rfl ?_)
    refine SeqR.d1 rfl rfl rfl (yl_assign rfl rfl ?_)
    refine SeqR.done ?_
    refine tn ?_
    refine CW.ret ?_
    refine rr rfl (.cons rfl .nil) ?_
    have hM2 : (s_l1In p_n p_lo p_hi) = (decide (p_n ≤ p_hi)) := by simp only [s_l1In, hb1, cond_true, cond_false, loopE_done, loopE_ret]
    rw [hM2]
    exact ⟨rfl, (Ex.refl w)⟩
  · have hb1p := dec_f hb1
    refine SeqR.z rfl rfl rfl rfl rfl hb1 ?_
    refine SeqR.z rfl rfl rfl rfl rfl hb1 ?_
    refine SeqR.z rfl rfl rfl rfl rfl hb1 ?_
    refine SeqR.d1 rfl rfl rfl (yl_pick_f rfl rfl hb1 rfl ?_)
    refine SeqR.d1 rfl rfl rfl (yl_assign rfl rfl ?_)
    refine SeqR.done ?_
    refine tn ?_
    refine CW.ret ?_
    refine rr rfl (.cons rfl .nil) ?_
    have hM3 : (s_l1In p_n p_lo p_hi) = (false) := by simp only [s_l1In, hb1, cond_true, cond_false, loopE_done, loopE_ret]
    rw [hM3]
    exact ⟨rfl, (Ex.refl w)⟩
set_option maxRecDepth 100000 in
set_option maxHeartbeats 2000000 in
theorem c_s_PowersAt {w : World} (p_stage : Int) : Cal Try.prog 13 #[.int .i64 (p_stage)] w fun v w' => v = .tuple #[.bool ((s_PowersAt p_stage).1), .bool ((s_PowersAt p_stage).2.1), .bool ((s_PowersAt p_stage).2.2.1), .bool ((s_PowersAt p_stage).2.2.2)] ∧ Ex w w' := by
  refine Cal.of (vs := [.int .i64 (p_stage)]) Try.func13 rfl Try.ntmps13 rfl ?_
  refine CW.seq ?_
  refine CW.region ?_
  refine SeqR.d1 rfl rfl rfl (yl_assign rfl rfl ?_)
  refine SeqR.d1 rfl rfl rfl (yl_assign rfl rfl ?_)
  refine SeqR.d1 rfl rfl rfl (yl_assign rfl rfl ?_)
  refine SeqR.d1 rfl rfl rfl (yl_assign rfl rfl ?_)
  refine SeqR.done ?_
  refine tn ?_
  refine CW.seq ?_
  refine CW.seq ?_
  refine CW.region ?_
  refine SeqR.d1 rfl rfl rfl (yl_move rfl rfl ?_)
  refine SeqR.d1 rfl rfl rfl (yl_call Try.en50 rfl (opvs_cons rfl (opvs_cons rfl (opvs_cons rfl opvs_nil))) (Cal.mono (c_s_l1In p_stage 0 3) ?_))
  rintro v2 w1 ⟨rfl, hE3⟩
  have hE3z := Ex.size hE3
  refine SeqR.d1 rfl rfl rfl (yl_not rfl rfl ?_)
  refine SeqR.done ?_
  refine tn ?_
  refine bcase (s_l1In p_stage 0 3) (fun hb4 => ?_) (fun hb4 => ?_)
  · have hb4p := f_l1In hb4
    refine CW.cond_f rfl (not_t hb4) ?_
    refine CW.skip ?_
    refine tn ?_
    refine CW.seq ?_
    refine CW.region ?_
    refine SeqR.d1 rfl rfl rfl (yl_move rfl rfl ?_)
    refine SeqR.d1 rfl rfl rfl (yl_geq rfl rfl rfl ?_)
    refine SeqR.d1 rfl rfl rfl (yl_move rfl rfl ?_)
    refine SeqR.d1 rfl rfl rfl (yl_geq rfl rfl rfl ?_)
    refine SeqR.d1 rfl rfl rfl (yl_move rfl rfl ?_)
    refine SeqR.d1 rfl rfl rfl (yl_geq rfl rfl rfl ?_)
    refine SeqR.d1 rfl rfl rfl (yl_assign rfl rfl ?_)
    refine SeqR.d1 rfl rfl rfl (yl_assign rfl rfl ?_)
    refine SeqR.d1 rfl rfl rfl (yl_assign rfl rfl ?_)
    refine SeqR.d1 rfl rfl rfl (yl_assign rfl rfl ?_)
    refine SeqR.done ?_
    refine tn ?_
    refine CW.ret ?_
    refine rr rfl (.cons rfl (.cons rfl (.cons rfl (.cons rfl .nil)))) ?_
    have hM5 : (s_PowersAt p_stage) = ((decide (1 ≤ p_stage), decide (2 ≤ p_stage), decide (3 ≤ p_stage), true)) := by simp only [s_PowersAt, hb4, cond_true, cond_false, loopE_done, loopE_ret]
    rw [hM5]
    have q6 := Ex.trans (Ex.refl w) hE3
    exact ⟨rfl, q6⟩
  · skip
    refine CW.cond_t rfl (not_f hb4) ?_
    refine CW.seq ?_
    refine CW.region ?_
    refine SeqR.d1 rfl rfl rfl (yl_assign rfl rfl ?_)
    refine SeqR.d1 rfl rfl rfl (yl_assign rfl rfl ?_)
    refine SeqR.d1 rfl rfl rfl (yl_assign rfl rfl ?_)
    refine SeqR.d1 rfl rfl rfl (yl_assign rfl rfl ?_)
    refine SeqR.done ?_
    refine tn ?_
    refine CW.ret ?_
    refine tr ?_
    refine rr rfl (.cons rfl (.cons rfl (.cons rfl (.cons rfl .nil)))) ?_
    have hM7 : (s_PowersAt p_stage) = ((false, false, false, false)) := by simp only [s_PowersAt, hb4, cond_true, cond_false, loopE_done, loopE_ret]
    rw [hM7]
    have q8 := Ex.trans (Ex.refl w) hE3
    exact ⟨rfl, q8⟩
set_option maxRecDepth 100000 in
set_option maxHeartbeats 2000000 in
theorem c_i_within {w : World} (p_n : Int) (p_low : Int) (p_high : Int) : Cal Try.prog 56 #[.int .i64 (p_n), .int .i64 (p_low), .int .i64 (p_high)] w fun v w' => v = .bool ((i_within p_n p_low p_high)) ∧ Ex w w' := by
  refine Cal.of (vs := [.int .i64 (p_n), .int .i64 (p_low), .int .i64 (p_high)]) Try.func56 rfl Try.ntmps56 rfl ?_
  refine CW.seq ?_
  refine CW.region ?_
  refine SeqR.d1 rfl rfl rfl (yl_assign rfl rfl ?_)
  refine SeqR.done ?_
  refine tn ?_
  refine CW.seq ?_
  refine CW.region ?_
  refine SeqR.d1 rfl rfl rfl (yl_move rfl rfl ?_)
  refine SeqR.d1 rfl rfl rfl (yl_move rfl rfl ?_)
  refine SeqR.d1 rfl rfl rfl (yl_geq rfl rfl rfl ?_)
  refine SeqR.d1 rfl rfl rfl (yl_move rfl rfl ?_)
  refine bcase (decide (p_low ≤ p_n)) (fun hb1 => ?_) (fun hb1 => ?_)
  · have hb1p := dec_t hb1
    refine SeqR.y rfl rfl rfl rfl rfl hb1 (yl_move rfl rfl ?_)
    refine SeqR.y rfl rfl rfl rfl rfl hb1 (yl_move rfl rfl ?_)
    refine SeqR.y rfl rfl rfl rfl rfl hb1 (yl_leq rfl rfl rfl ?_)
    refine SeqR.d1 rfl rfl rfl (yl_pick_t rfl rfl hb1 rfl ?_)
    refine SeqR.d1 rfl rfl rfl (yl_assign rfl rfl ?_)
    refine SeqR.done ?_
    refine tn ?_
    refine CW.ret ?_
    refine rr rfl (.cons rfl .nil) ?_
    have hM2 : (i_within p_n p_low p_high) = (decide (p_n ≤ p_high)) := by simp only [i_within, hb1, cond_true, cond_false, loopE_done, loopE_ret]
    rw [hM2]
    exact ⟨rfl, (Ex.refl w)⟩
  · have hb1p := dec_f hb1
    refine SeqR.z rfl rfl rfl rfl rfl hb1 ?_
    refine SeqR.z rfl rfl rfl rfl rfl hb1 ?_
    refine SeqR.z rfl rfl rfl rfl rfl hb1 ?_
    refine SeqR.d1 rfl rfl rfl (yl_pick_f rfl rfl hb1 rfl ?_)
    refine SeqR.d1 rfl rfl rfl (yl_assign rfl rfl ?_)
    refine SeqR.done ?_
    refine tn ?_
    refine CW.ret ?_
    refine rr rfl (.cons rfl .nil) ?_
    have hM3 : (i_within p_n p_low p_high) = (false) := by simp only [i_within, hb1, cond_true, cond_false, loopE_done, loopE_ret]
    rw [hM3]
    exact ⟨rfl, (Ex.refl w)⟩
set_option maxRecDepth 100000 in
set_option maxHeartbeats 2000000 in
theorem c_i_isStage {w : World} (p_stage : Int) : Cal Try.prog 51 #[.int .i64 (p_stage)] w fun v w' => v = .bool ((i_isStage p_stage)) ∧ Ex w w' := by
  refine Cal.of (vs := [.int .i64 (p_stage)]) Try.func51 rfl Try.ntmps51 rfl ?_
  refine CW.seq ?_
  refine CW.region ?_
  refine SeqR.d1 rfl rfl rfl (yl_assign rfl rfl ?_)
  refine SeqR.done ?_
  refine tn ?_
  refine CW.seq ?_
  refine CW.region ?_
  refine SeqR.d1 rfl rfl rfl (yl_move rfl rfl ?_)
  refine SeqR.d1 rfl rfl rfl (yl_call Try.en56 rfl (opvs_cons rfl (opvs_cons rfl (opvs_cons rfl opvs_nil))) (Cal.mono (c_i_within p_stage 0 3) ?_))
  rintro v2 w1 ⟨rfl, hE3⟩
  have hE3z := Ex.size hE3
  refine SeqR.d1 rfl rfl rfl (yl_assign rfl rfl ?_)
  refine SeqR.done ?_
  refine tn ?_
  refine CW.ret ?_
  refine rr rfl (.cons rfl .nil) ?_
  have hM4 : (i_isStage p_stage) = ((i_within p_stage 0 3)) := by simp only [i_isStage, cond_true, cond_false, loopE_done, loopE_ret]
  rw [hM4]
  have q5 := Ex.trans (Ex.refl w) hE3
  exact ⟨rfl, q5⟩
set_option maxRecDepth 100000 in
set_option maxHeartbeats 2000000 in
theorem c_i_deletes {w : World} (p_stage : Int) : Cal Try.prog 52 #[.int .i64 (p_stage)] w fun v w' => v = .bool ((i_deletes p_stage)) ∧ Ex w w' := by
  refine Cal.of (vs := [.int .i64 (p_stage)]) Try.func52 rfl Try.ntmps52 rfl ?_
  refine CW.seq ?_
  refine CW.region ?_
  refine SeqR.d1 rfl rfl rfl (yl_assign rfl rfl ?_)
  refine SeqR.done ?_
  refine tn ?_
  refine CW.seq ?_
  refine CW.region ?_
  refine SeqR.d1 rfl rfl rfl (yl_move rfl rfl ?_)
  refine SeqR.d1 rfl rfl rfl (yl_geq rfl rfl rfl ?_)
  refine SeqR.d1 rfl rfl rfl (yl_assign rfl rfl ?_)
  refine SeqR.done ?_
  refine tn ?_
  refine CW.ret ?_
  refine rr rfl (.cons rfl .nil) ?_
  have hM1 : (i_deletes p_stage) = (decide (1 ≤ p_stage)) := by simp only [i_deletes, cond_true, cond_false, loopE_done, loopE_ret]
  rw [hM1]
  exact ⟨rfl, (Ex.refl w)⟩
set_option maxRecDepth 100000 in
set_option maxHeartbeats 2000000 in
theorem c_i_inserts {w : World} (p_stage : Int) : Cal Try.prog 53 #[.int .i64 (p_stage)] w fun v w' => v = .bool ((i_inserts p_stage)) ∧ Ex w w' := by
  refine Cal.of (vs := [.int .i64 (p_stage)]) Try.func53 rfl Try.ntmps53 rfl ?_
  refine CW.seq ?_
  refine CW.region ?_
  refine SeqR.d1 rfl rfl rfl (yl_assign rfl rfl ?_)
  refine SeqR.done ?_
  refine tn ?_
  refine CW.seq ?_
  refine CW.region ?_
  refine SeqR.d1 rfl rfl rfl (yl_move rfl rfl ?_)
  refine SeqR.d1 rfl rfl rfl (yl_geq rfl rfl rfl ?_)
  refine SeqR.d1 rfl rfl rfl (yl_assign rfl rfl ?_)
  refine SeqR.done ?_
  refine tn ?_
  refine CW.ret ?_
  refine rr rfl (.cons rfl .nil) ?_
  have hM1 : (i_inserts p_stage) = (decide (2 ≤ p_stage)) := by simp only [i_inserts, cond_true, cond_false, loopE_done, loopE_ret]
  rw [hM1]
  exact ⟨rfl, (Ex.refl w)⟩
set_option maxRecDepth 100000 in
set_option maxHeartbeats 2000000 in
theorem c_i_PowersAt {w : World} (p_stage : Int) : Cal Try.prog 14 #[.int .i64 (p_stage)] w fun v w' => v = .tuple #[.bool ((i_PowersAt p_stage).1), .bool ((i_PowersAt p_stage).2.1), .bool ((i_PowersAt p_stage).2.2.1), .bool ((i_PowersAt p_stage).2.2.2)] ∧ Ex w w' := by
  refine Cal.of (vs := [.int .i64 (p_stage)]) Try.func14 rfl Try.ntmps14 rfl ?_
  refine CW.seq ?_
  refine CW.region ?_
  refine SeqR.d1 rfl rfl rfl (yl_assign rfl rfl ?_)
  refine SeqR.d1 rfl rfl rfl (yl_assign rfl rfl ?_)
  refine SeqR.d1 rfl rfl rfl (yl_assign rfl rfl ?_)
  refine SeqR.d1 rfl rfl rfl (yl_assign rfl rfl ?_)
  refine SeqR.done ?_
  refine tn ?_
  refine CW.seq ?_
  refine CW.seq ?_
  refine CW.region ?_
  refine SeqR.d1 rfl rfl rfl (yl_move rfl rfl ?_)
  refine SeqR.d1 rfl rfl rfl (yl_call Try.en51 rfl (opvs_cons rfl opvs_nil) (Cal.mono (c_i_isStage p_stage) ?_))
  rintro v2 w1 ⟨rfl, hE3⟩
  have hE3z := Ex.size hE3
  refine SeqR.d1 rfl rfl rfl (yl_not rfl rfl ?_)
  refine SeqR.done ?_
  refine tn ?_
  refine bcase (i_isStage p_stage) (fun hb4 => ?_) (fun hb4 => ?_)
  · skip
    refine CW.cond_f rfl (not_t hb4) ?_
    refine CW.skip ?_
    refine tn ?_
    refine CW.seq ?_
    refine CW.region ?_
    refine SeqR.d1 rfl rfl rfl (yl_move rfl rfl ?_)
    refine SeqR.d1 rfl rfl rfl (yl_call Try.en52 rfl (opvs_cons rfl opvs_nil) (Cal.mono (c_i_deletes p_stage) ?_))
    rintro v6 w5 ⟨rfl, hE7⟩
    have hE7z := Ex.size hE7
    refine SeqR.d1 rfl rfl rfl (yl_move rfl rfl ?_)
    refine SeqR.d1 rfl rfl rfl (yl_call Try.en53 rfl (opvs_cons rfl opvs_nil) (Cal.mono (c_i_inserts p_stage) ?_))
    rintro v9 w8 ⟨rfl, hE10⟩
    have hE10z := Ex.size hE10
    refine SeqR.d1 rfl rfl rfl (yl_move rfl rfl ?_)
    refine SeqR.d1 rfl rfl rfl (yl_eql rfl rfl rfl ?_)
    refine SeqR.d1 rfl rfl rfl (yl_assign rfl rfl ?_)
    refine SeqR.d1 rfl rfl rfl (yl_assign rfl rfl ?_)
    refine SeqR.d1 rfl rfl rfl (yl_assign rfl rfl ?_)
    refine SeqR.d1 rfl rfl rfl (yl_assign rfl rfl ?_)
    refine SeqR.done ?_
    refine tn ?_
    refine CW.ret ?_
    refine rr rfl (.cons rfl (.cons rfl (.cons rfl (.cons rfl .nil)))) ?_
    have hM11 : (i_PowersAt p_stage) = (((i_deletes p_stage), (i_inserts p_stage), decide (p_stage = 3), true)) := by simp only [i_PowersAt, hb4, cond_true, cond_false, loopE_done, loopE_ret]
    rw [hM11]
    have q12 := Ex.trans (Ex.refl w) hE3
    have q13 := Ex.trans q12 hE7
    have q14 := Ex.trans q13 hE10
    exact ⟨rfl, q14⟩
  · skip
    refine CW.cond_t rfl (not_f hb4) ?_
    refine CW.seq ?_
    refine CW.region ?_
    refine SeqR.d1 rfl rfl rfl (yl_assign rfl rfl ?_)
    refine SeqR.d1 rfl rfl rfl (yl_assign rfl rfl ?_)
    refine SeqR.d1 rfl rfl rfl (yl_assign rfl rfl ?_)
    refine SeqR.d1 rfl rfl rfl (yl_assign rfl rfl ?_)
    refine SeqR.done ?_
    refine tn ?_
    refine CW.ret ?_
    refine tr ?_
    refine rr rfl (.cons rfl (.cons rfl (.cons rfl (.cons rfl .nil)))) ?_
    have hM15 : (i_PowersAt p_stage) = ((false, false, false, false)) := by simp only [i_PowersAt, hb4, cond_true, cond_false, loopE_done, loopE_ret]
    rw [hM15]
    have q16 := Ex.trans (Ex.refl w) hE3
    exact ⟨rfl, q16⟩
set_option maxRecDepth 100000 in
set_option maxHeartbeats 2000000 in
theorem c_l_FnExactPowersAt {w : World} (p_aStage : Int) (pre0 : wfI p_aStage) : Cal Try.prog 3 #[.int .i64 (p_aStage)] w fun v w' => v = .bool ((l_FnExactPowersAt p_aStage)) ∧ Ex w w' := by
  refine Cal.of (vs := [.int .i64 (p_aStage)]) Try.func3 rfl Try.ntmps3 rfl ?_
  refine CW.seq ?_
  refine CW.region ?_
  refine SeqR.d1 rfl rfl rfl (yl_assign rfl rfl ?_)
  refine SeqR.done ?_
  refine tn ?_
  refine CW.seq ?_
  refine CW.region ?_
  refine SeqR.d1 rfl rfl rfl (yl_move rfl rfl ?_)
  refine SeqR.d1 rfl rfl rfl (yl_call Try.en13 rfl (opvs_cons rfl opvs_nil) (Cal.mono (c_s_PowersAt p_aStage) ?_))
  rintro v2 w1 ⟨rfl, hE3⟩
  have hE3z := Ex.size hE3
  refine SeqR.d1 rfl rfl rfl (yl_move rfl rfl ?_)
  refine SeqR.d1 rfl rfl rfl (yl_extract rfl rfl rfl ?_)
  refine SeqR.d1 rfl rfl rfl (yl_extract rfl rfl rfl ?_)
  refine SeqR.d1 rfl rfl rfl (yl_extract rfl rfl rfl ?_)
  refine SeqR.d1 rfl rfl rfl (yl_extract rfl rfl rfl ?_)
  refine SeqR.d1 rfl rfl rfl (yl_assign rfl rfl ?_)
  refine SeqR.d1 rfl rfl rfl (yl_assign rfl rfl ?_)
  refine SeqR.d1 rfl rfl rfl (yl_assign rfl rfl ?_)
  refine SeqR.d1 rfl rfl rfl (yl_assign rfl rfl ?_)
  refine SeqR.done ?_
  refine tn ?_
  refine CW.seq ?_
  refine CW.region ?_
  refine SeqR.d1 rfl rfl rfl (yl_move rfl rfl ?_)
  refine SeqR.d1 rfl rfl rfl (yl_call Try.en14 rfl (opvs_cons rfl opvs_nil) (Cal.mono (c_i_PowersAt p_aStage) ?_))
  rintro v5 w4 ⟨rfl, hE6⟩
  have hE6z := Ex.size hE6
  refine SeqR.d1 rfl rfl rfl (yl_move rfl rfl ?_)
  refine SeqR.d1 rfl rfl rfl (yl_extract rfl rfl rfl ?_)
  refine SeqR.d1 rfl rfl rfl (yl_extract rfl rfl rfl ?_)
  refine SeqR.d1 rfl rfl rfl (yl_extract rfl rfl rfl ?_)
  refine SeqR.d1 rfl rfl rfl (yl_extract rfl rfl rfl ?_)
  refine SeqR.d1 rfl rfl rfl (yl_assign rfl rfl ?_)
  refine SeqR.d1 rfl rfl rfl (yl_assign rfl rfl ?_)
  refine SeqR.d1 rfl rfl rfl (yl_assign rfl rfl ?_)
  refine SeqR.d1 rfl rfl rfl (yl_assign rfl rfl ?_)
  refine SeqR.done ?_
  refine tn ?_
  refine CW.seq ?_
  refine CW.seq ?_
  refine CW.region ?_
  refine SeqR.d1 rfl rfl rfl (yl_move rfl rfl ?_)
  refine SeqR.d1 rfl rfl rfl (yl_move rfl rfl ?_)
  refine SeqR.d1 rfl rfl rfl (yl_bneq Try.un4 rfl rfl rfl ?_)
  refine SeqR.d1 rfl rfl rfl (yl_move rfl rfl ?_)
  refine bcase (((i_PowersAt p_aStage).1) == ((s_PowersAt p_aStage).1)) (fun hb7 => ?_) (fun hb7 => ?_)
  · skip
    refine SeqR.y rfl rfl rfl rfl rfl (not_t hb7) (yl_move rfl rfl ?_)
    refine SeqR.y rfl rfl rfl rfl rfl (not_t hb7) (yl_move rfl rfl ?_)
    refine SeqR.y rfl rfl rfl rfl rfl (not_t hb7) (yl_bneq Try.un4 rfl rfl rfl ?_)
    refine SeqR.d1 rfl rfl rfl (yl_pick_f rfl rfl (not_t hb7) rfl ?_)
    refine SeqR.d1 rfl rfl rfl (yl_move rfl rfl ?_)
    refine bcase (((i_PowersAt p_aStage).2.1) == ((s_PowersAt p_aStage).2.1)) (fun hb8 => ?_) (fun hb8 => ?_)
    · skip
      refine SeqR.y rfl rfl rfl rfl rfl (not_t hb8) (yl_move rfl rfl ?_)
      refine SeqR.y rfl rfl rfl rfl rfl (not_t hb8) (yl_move rfl rfl ?_)
      refine SeqR.y rfl rfl rfl rfl rfl (not_t hb8) (yl_bneq Try.un4 rfl rfl rfl ?_)
      refine SeqR.d1 rfl rfl rfl (yl_pick_f rfl rfl (not_t hb8) rfl ?_)
      refine SeqR.d1 rfl rfl rfl (yl_move rfl rfl ?_)
      refine bcase (((i_PowersAt p_aStage).2.2.1) == ((s_PowersAt p_aStage).2.2.1)) (fun hb9 => ?_) (fun hb9 => ?_)
      · skip
        refine SeqR.y rfl rfl rfl rfl rfl (not_t hb9) (yl_move rfl rfl ?_)
        refine SeqR.y rfl rfl rfl rfl rfl (not_t hb9) (yl_move rfl rfl ?_)
        refine SeqR.y rfl rfl rfl rfl rfl (not_t hb9) (yl_bneq Try.un4 rfl rfl rfl ?_)
        refine SeqR.d1 rfl rfl rfl (yl_pick_f rfl rfl (not_t hb9) rfl ?_)
        refine SeqR.done ?_
        refine tn ?_
        refine bcase (((i_PowersAt p_aStage).2.2.2) == ((s_PowersAt p_aStage).2.2.2)) (fun hb10 => ?_) (fun hb10 => ?_)
        · skip
          refine CW.cond_f rfl (not_t hb10) ?_
          refine CW.skip ?_
          refine tn ?_
          refine CW.seq ?_
          refine CW.region ?_
          refine SeqR.d1 rfl rfl rfl (yl_assign rfl rfl ?_)
          refine SeqR.done ?_
          refine tn ?_
          refine CW.ret ?_
          refine rr rfl (.cons rfl .nil) ?_
          have hM11 : (l_FnExactPowersAt p_aStage) = (true) := by simp only [l_FnExactPowersAt, hb7, hb8, hb9, hb10, cond_true, cond_false, loopE_done, loopE_ret]
          rw [hM11]
          have q12 := Ex.trans (Ex.refl w) hE3
          have q13 := Ex.trans q12 hE6
          exact ⟨rfl, q13⟩
        · skip
          refine CW.cond_t rfl (not_f hb10) ?_
          refine CW.seq ?_
          refine CW.region ?_
          refine SeqR.d1 rfl rfl rfl (yl_assign rfl rfl ?_)
          refine SeqR.done ?_
          refine tn ?_
          refine CW.ret ?_
          refine tr ?_
          refine rr rfl (.cons rfl .nil) ?_
          have hM14 : (l_FnExactPowersAt p_aStage) = (false) := by simp only [l_FnExactPowersAt, hb7, hb8, hb9, hb10, cond_true, cond_false, loopE_done, loopE_ret]
          rw [hM14]
          have q15 := Ex.trans (Ex.refl w) hE3
          have q16 := Ex.trans q15 hE6
          exact ⟨rfl, q16⟩
      · skip
        refine SeqR.z rfl rfl rfl rfl rfl (not_f hb9) ?_
        refine SeqR.z rfl rfl rfl rfl rfl (not_f hb9) ?_
        refine SeqR.z rfl rfl rfl rfl rfl (not_f hb9) ?_
        refine SeqR.d1 rfl rfl rfl (yl_pick_t rfl rfl (not_f hb9) rfl ?_)
        refine SeqR.done ?_
        refine tn ?_
        refine CW.cond_t rfl rfl ?_
        refine CW.seq ?_
        refine CW.region ?_
        refine SeqR.d1 rfl rfl rfl (yl_assign rfl rfl ?_)
        refine SeqR.done ?_
        refine tn ?_
        refine CW.ret ?_
        refine tr ?_
        refine rr rfl (.cons rfl .nil) ?_
        have hM17 : (l_FnExactPowersAt p_aStage) = (false) := by simp only [l_FnExactPowersAt, hb7, hb8, hb9, cond_true, cond_false, loopE_done, loopE_ret]
        rw [hM17]
        have q18 := Ex.trans (Ex.refl w) hE3
        have q19 := Ex.trans q18 hE6
        exact ⟨rfl, q19⟩
    · skip
      refine SeqR.z rfl rfl rfl rfl rfl (not_f hb8) ?_
      refine SeqR.z rfl rfl rfl rfl rfl (not_f hb8) ?_
      refine SeqR.z rfl rfl rfl rfl rfl (not_f hb8) ?_
      refine SeqR.d1 rfl rfl rfl (yl_pick_t rfl rfl (not_f hb8) rfl ?_)
      refine SeqR.d1 rfl rfl rfl (yl_move rfl rfl ?_)
      refine SeqR.z rfl rfl rfl rfl rfl rfl ?_
      refine SeqR.z rfl rfl rfl rfl rfl rfl ?_
      refine SeqR.z rfl rfl rfl rfl rfl rfl ?_
      refine SeqR.d1 rfl rfl rfl (yl_pick_t rfl rfl rfl rfl ?_)
      refine SeqR.done ?_
      refine tn ?_
      refine CW.cond_t rfl rfl ?_
      refine CW.seq ?_
      refine CW.region ?_
      refine SeqR.d1 rfl rfl rfl (yl_assign rfl rfl ?_)
      refine SeqR.done ?_
      refine tn ?_
      refine CW.ret ?_
      refine tr ?_
      refine rr rfl (.cons rfl .nil) ?_
      have hM20 : (l_FnExactPowersAt p_aStage) = (false) := by simp only [l_FnExactPowersAt, hb7, hb8, cond_true, cond_false, loopE_done, loopE_ret]
      rw [hM20]
      have q21 := Ex.trans (Ex.refl w) hE3
      have q22 := Ex.trans q21 hE6
      exact ⟨rfl, q22⟩
  · skip
    refine SeqR.z rfl rfl rfl rfl rfl (not_f hb7) ?_
    refine SeqR.z rfl rfl rfl rfl rfl (not_f hb7) ?_
    refine SeqR.z rfl rfl rfl rfl rfl (not_f hb7) ?_
    refine SeqR.d1 rfl rfl rfl (yl_pick_t rfl rfl (not_f hb7) rfl ?_)
    refine SeqR.d1 rfl rfl rfl (yl_move rfl rfl ?_)
    refine SeqR.z rfl rfl rfl rfl rfl rfl ?_
    refine SeqR.z rfl rfl rfl rfl rfl rfl ?_
    refine SeqR.z rfl rfl rfl rfl rfl rfl ?_
    refine SeqR.d1 rfl rfl rfl (yl_pick_t rfl rfl rfl rfl ?_)
    refine SeqR.d1 rfl rfl rfl (yl_move rfl rfl ?_)
    refine SeqR.z rfl rfl rfl rfl rfl rfl ?_
    refine SeqR.z rfl rfl rfl rfl rfl rfl ?_
    refine SeqR.z rfl rfl rfl rfl rfl rfl ?_
    refine SeqR.d1 rfl rfl rfl (yl_pick_t rfl rfl rfl rfl ?_)
    refine SeqR.done ?_
    refine tn ?_
    refine CW.cond_t rfl rfl ?_
    refine CW.seq ?_
    refine CW.region ?_
    refine SeqR.d1 rfl rfl rfl (yl_assign rfl rfl ?_)
    refine SeqR.done ?_
    refine tn ?_
    refine CW.ret ?_
    refine tr ?_
    refine rr rfl (.cons rfl .nil) ?_
    have hM23 : (l_FnExactPowersAt p_aStage) = (false) := by simp only [l_FnExactPowersAt, hb7, cond_true, cond_false, loopE_done, loopE_ret]
    rw [hM23]
    have q24 := Ex.trans (Ex.refl w) hE3
    have q25 := Ex.trans q24 hE6
    exact ⟨rfl, q25⟩
end Go.Proofs.Ytnfjabkdlkejkaa
