/- Good Work Act: what each call returns, part 5. -/
import Derived.Test.YtfmepgbpbbneaaaGreatGoodWorkActC4
set_option linter.unusedVariables false
set_option linter.unusedSimpArgs false
namespace Go.Proofs.YtfmepgbpbbneaaaGreat
open Go.RowKit Go.X
set_option maxRecDepth 100000 in
set_option maxHeartbeats 2000000 in
theorem c_l_FnExactGoodWorkAct {A1 : Option Addr} {c1 : Nat} {A2 : Option Addr} {c2 : Nat} {A3 : Option Addr} {c3 : Nat} {A4 : Option Addr} {c4 : Nat} {A5 : Option Addr} {c5 : Nat} {w : World} (p_aW : DWork) (p_aA : DWorkAct) (h1 : RdS w (Iv 0 w.heap.size) R_Table 3 A1 p_aW.Shift.Ways.length c1 p_aW.Shift.Ways) (h2 : RdS w (Iv 0 w.heap.size) (RF e_Int) 1 A2 p_aW.Shift.At.length c2 p_aW.Shift.At) (h3 : RdS w (Iv 0 w.heap.size) (RF e_Write) 3 A3 p_aW.Shift.Store.length c3 p_aW.Shift.Store) (h4 : RdS w (Iv 0 w.heap.size) (RF e_Str) 1 A4 p_aA.Act.Act.Old.Vals.length c4 p_aA.Act.Act.Old.Vals) (h5 : RdS w (Iv 0 w.heap.size) (RF e_Str) 1 A5 p_aA.Act.Act.New.Vals.length c5 p_aA.Act.Act.New.Vals) (pre0 : wf_Work p_aW) (pre1 : wf_WorkAct p_aA) : Cal Tryz.prog 4 #[.agg #[.string (bs (p_aW.Shift.Name)), .slice A1 p_aW.Shift.Ways.length c1, .slice A2 p_aW.Shift.At.length c2, .slice A3 p_aW.Shift.Store.length c3, .string (bs (p_aW.Up.Last)), .bool (p_aW.Up.Over), .string (bs (p_aW.Down.Last)), .bool (p_aW.Down.Over)], .agg #[.int .i64 (p_aA.Kind), .int .i64 (p_aA.Many), .int .i64 (p_aA.Act.Server), .int .i64 (p_aA.Act.Step), .int .i64 (p_aA.Act.Act.Kind), .slice A4 p_aA.Act.Act.Old.Vals.length c4, .slice A5 p_aA.Act.Act.New.Vals.length c5]] w fun v w' => v = .bool ((l_FnExactGoodWorkAct p_aW p_aA)) ∧ Ex w w' := by
 refine Cal.of (vs := [.agg #[.string (bs (p_aW.Shift.Name)), .slice A1 p_aW.Shift.Ways.length c1, .slice A2 p_aW.Shift.At.length c2, .slice A3 p_aW.Shift.Store.length c3, .string (bs (p_aW.Up.Last)), .bool (p_aW.Up.Over), .string (bs (p_aW.Down.Last)), .bool (p_aW.Down.Over)], .agg #[.int .i64 (p_aA.Kind), .int .i64 (p_aA.Many), .int .i64 (p_aA.Act.Server), .int .i64 (p_aA.Act.Step), .int .i64 (p_aA.Act.Act.Kind), .slice A4 p_aA.Act.Act.Old.Vals.length c4, .slice A5 p_aA.Act.Act.New.Vals.length c5]]) Tryz.func4 rfl Tryz.ntmps4 rfl (CW.seq (CW.region (sd rfl (yl_box (cs := [.string (bs (p_aW.Shift.Name)), .slice A1 p_aW.Shift.Ways.length c1, .slice A2 p_aW.Shift.At.length c2, .slice A3 p_aW.Shift.Store.length c3, .string (bs (p_aW.Up.Last)), .bool (p_aW.Up.Over), .string (bs (p_aW.Down.Last)), .bool (p_aW.Down.Over)]) rfl rfl rfl ?_))))
 intro b6 w7 hs8 hz9 hB10 hE11
 refine sd rfl (yl_box (cs := [.int .i64 (p_aA.Kind), .int .i64 (p_aA.Many), .int .i64 (p_aA.Act.Server), .int .i64 (p_aA.Act.Step), .int .i64 (p_aA.Act.Act.Kind), .slice A4 p_aA.Act.Act.Old.Vals.length c4, .slice A5 p_aA.Act.Act.New.Vals.length c5]) rfl rfl rfl ?_)
 intro b12 w13 hs14 hz15 hB16 hE17
 refine sd rfl (yl_assign rfl rfl (SeqR.done (tn (CW.seq (CW.region (sd rfl (yl_assign rfl rfl (SeqR.done (tn (CW.seq ?_))))))))))
 refine CW.region ?_
 have q18 := Box.ex hB10 hE17
 refine sd rfl (yl_loadN (cs := [.string (bs (p_aW.Shift.Name)), .slice A1 p_aW.Shift.Ways.length c1, .slice A2 p_aW.Shift.At.length c2, .slice A3 p_aW.Shift.Store.length c3, .string (bs (p_aW.Up.Last)), .bool (p_aW.Up.Over), .string (bs (p_aW.Down.Last)), .bool (p_aW.Down.Over)]) Tryz.ty54 rfl rfl (q18.cells (n := 8) rfl) rfl (sd rfl (yl_move rfl rfl ?_)))
 have q20 := RdS.ex good_Table (RdS.ex good_Table h1 hE11) hE17
 have q22 := RdS.ex good_Int (RdS.ex good_Int h2 hE11) hE17
 have q24 := RdS.ex good_Write (RdS.ex good_Write h3 hE11) hE17
 refine sd rfl (yl_call Tryz.en14 rfl (opvs_cons rfl (opvs_cons rfl opvs_nil)) (Cal.mono (c_l_szWork p_aW 1048576 (RdS.up q20 good_Table) (RdS.up q22 good_Int) (RdS.up q24 good_Write)) ?_))
 rintro v26 w25 ⟨rfl, hE27⟩
 have hE27z := Ex.size hE27
 refine sd rfl (yl_assign rfl rfl (SeqR.done (tn (CW.seq (CW.seq (CW.region (sd rfl (yl_move rfl rfl (sd rfl (yl_lss rfl rfl rfl (SeqR.done ?_)))))))))))
 refine tn (bcase (decide ((l_szWork p_aW 1048576) < 0)) (fun hb28 => ?_) (fun hb28 => ?_))
 ·have hb28p := dec_t hb28
  refine CW.cond_t rfl hb28 (CW.seq (CW.region (sd rfl (yl_assign rfl rfl (SeqR.done (tn (CW.ret (tr (rr rfl (.cons rfl .nil) ?_)))))))))
  have hM29 : (l_FnExactGoodWorkAct p_aW p_aA) = (true) := by simp only [l_FnExactGoodWorkAct, hb28, cond_true, cond_false, loopE_done, loopE_ret]
  rw [hM29]
  exact ⟨rfl, (Ex.trans (Ex.trans (Ex.trans (Ex.refl w) hE11) hE17) hE27)⟩
 ·have hb28p := dec_f hb28
  refine CW.cond_f rfl hb28 (CW.skip (tn (CW.seq (CW.region ?_))))
  have q33 := Box.ex hB16 hE27
  refine sd rfl (yl_loadN (cs := [.int .i64 (p_aA.Kind), .int .i64 (p_aA.Many), .int .i64 (p_aA.Act.Server), .int .i64 (p_aA.Act.Step), .int .i64 (p_aA.Act.Act.Kind), .slice A4 p_aA.Act.Act.Old.Vals.length c4, .slice A5 p_aA.Act.Act.New.Vals.length c5]) Tryz.ty56 rfl rfl (q33.cells (n := 7) rfl) rfl (sd rfl (yl_move rfl rfl ?_)))
  have q36 := RdS.ex good_Str (RdS.ex good_Str (RdS.ex good_Str h4 hE11) hE17) hE27
  have q39 := RdS.ex good_Str (RdS.ex good_Str (RdS.ex good_Str h5 hE11) hE17) hE27
  refine sd rfl (yl_call Tryz.en15 rfl (opvs_cons rfl (opvs_cons rfl opvs_nil)) (Cal.mono (c_l_szWorkAct p_aA (l_szWork p_aW 1048576) (RdS.up q36 good_Str) (RdS.up q39 good_Str)) ?_))
  rintro v41 w40 ⟨rfl, hE42⟩
  have hE42z := Ex.size hE42
  refine sd rfl (yl_assign rfl rfl (SeqR.done (tn (CW.seq (CW.seq (CW.region (sd rfl (yl_move rfl rfl (sd rfl (yl_lss rfl rfl rfl (SeqR.done ?_)))))))))))
  refine tn (bcase (decide ((l_szWorkAct p_aA (l_szWork p_aW 1048576)) < 0)) (fun hb43 => ?_) (fun hb43 => ?_))
  ·have hb43p := dec_t hb43
   refine CW.cond_t rfl hb43 (CW.seq (CW.region (sd rfl (yl_assign rfl rfl (SeqR.done (tn (CW.ret (tr (rr rfl (.cons rfl .nil) ?_)))))))))
   have hM44 : (l_FnExactGoodWorkAct p_aW p_aA) = (true) := by simp only [l_FnExactGoodWorkAct, hb28, hb43, cond_true, cond_false, loopE_done, loopE_ret]
   rw [hM44]
   exact ⟨rfl, (Ex.trans (Ex.trans (Ex.trans (Ex.trans (Ex.refl w) hE11) hE17) hE27) hE42)⟩
  ·have hb43p := dec_f hb43
   refine CW.cond_f rfl hb43 (CW.skip (tn (CW.seq ?_)))
   have q50 := Box.ex (Box.ex q18 hE27) hE42
   have q52 := RdS.ex good_Table (RdS.ex good_Table q20 hE27) hE42
   have q54 := RdS.ex good_Int (RdS.ex good_Int q22 hE27) hE42
   have q56 := RdS.ex good_Write (RdS.ex good_Write q24 hE27) hE42
   have q61 := Box.ex q33 hE42
   have q62 := RdS.ex good_Str q36 hE42
   have q63 := RdS.ex good_Str q39 hE42
   refine CW.drawsI 6 (vgetI [DetI (.agg #[.string (bs (p_aW.Shift.Name)), .slice A1 p_aW.Shift.Ways.length c1, .slice A2 p_aW.Shift.At.length c2, .slice A3 p_aW.Shift.Store.length c3, .string (bs (p_aW.Up.Last)), .bool (p_aW.Up.Over), .string (bs (p_aW.Down.Last)), .bool (p_aW.Down.Over)]), fun lo hi v wq => ∃ A58 c58 lo58 hi58 A59 c59 lo59 hi59 A60 c60 lo60 hi60, v = .agg #[.string (bs (p_aW.Shift.Name)), .slice A58 p_aW.Shift.Ways.length c58, .slice A59 p_aW.Shift.At.length c59, .slice A60 p_aW.Shift.Store.length c60, .string (bs (p_aW.Up.Last)), .bool (p_aW.Up.Over), .string (bs (p_aW.Down.Last)), .bool (p_aW.Down.Over)] ∧ OwnL wq lo58 hi58 95 3 R_Table A58 p_aW.Shift.Ways.length c58 p_aW.Shift.Ways ∧ OwnL wq lo59 hi59 3 1 (RF e_Int) A59 p_aW.Shift.At.length c59 p_aW.Shift.At ∧ OwnL wq lo60 hi60 112 3 (RF e_Write) A60 p_aW.Shift.Store.length c60 p_aW.Shift.Store ∧ (lo ≤ lo58 ∧ lo58 ≤ hi58 ∧ hi58 ≤ hi) ∧ (lo ≤ lo59 ∧ lo59 ≤ hi59 ∧ hi59 ≤ hi) ∧ (lo ≤ lo60 ∧ lo60 ≤ hi60 ∧ hi60 ≤ hi) ∧ (hi58 ≤ lo59 ∨ hi59 ≤ lo58) ∧ (hi58 ≤ lo60 ∨ hi60 ≤ lo58) ∧ (hi59 ≤ lo60 ∨ hi60 ≤ lo59), DetI (.agg #[.int .i64 (p_aA.Kind), .int .i64 (p_aA.Many), .int .i64 (p_aA.Act.Server), .int .i64 (p_aA.Act.Step), .int .i64 (p_aA.Act.Act.Kind), .slice A4 p_aA.Act.Act.Old.Vals.length c4, .slice A5 p_aA.Act.Act.New.Vals.length c5]), fun lo hi v wq => ∃ A65 c65 lo65 hi65 A66 c66 lo66 hi66, v = .agg #[.int .i64 (p_aA.Kind), .int .i64 (p_aA.Many), .int .i64 (p_aA.Act.Server), .int .i64 (p_aA.Act.Step), .int .i64 (p_aA.Act.Act.Kind), .slice A65 p_aA.Act.Act.Old.Vals.length c65, .slice A66 p_aA.Act.Act.New.Vals.length c66] ∧ OwnL wq lo65 hi65 9 1 (RF e_Str) A65 p_aA.Act.Act.Old.Vals.length c65 p_aA.Act.Act.Old.Vals ∧ OwnL wq lo66 hi66 9 1 (RF e_Str) A66 p_aA.Act.Act.New.Vals.length c66 p_aA.Act.Act.New.Vals ∧ (lo ≤ lo65 ∧ lo65 ≤ hi65 ∧ hi65 ≤ hi) ∧ (lo ≤ lo66 ∧ lo66 ≤ hi66 ∧ hi66 ≤ hi) ∧ (hi65 ≤ lo66 ∨ hi66 ≤ lo65), DetI (.bool ((s_GoodWorkAct p_aW p_aA))), DetI (.bool ((s_GoodWorkAct p_aW p_aA)))]) Tryz.follows rfl rfl rfl rfl rfl rfl (vgetI_stable ⟨StableI.det _, (fun _ _ _ _ _ ⟨A58, c58, lo58, hi58, A59, c59, lo59, hi59, A60, c60, lo60, hi60, hv, h58, h59, h60, hr0, hr1, hr2, hr3, hr4, hr5⟩ e => ⟨A58, c58, lo58, hi58, A59, c59, lo59, hi59, A60, c60, lo60, hi60, hv, OwnL.ex good_Table h58 e, OwnL.ex good_Int h59 e, OwnL.ex good_Write h60 e, hr0, hr1, hr2, hr3, hr4, hr5⟩), StableI.det _, (fun _ _ _ _ _ ⟨A65, c65, lo65, hi65, A66, c66, lo66, hi66, hv, h65, h66, hr0, hr1, hr2⟩ e => ⟨A65, c65, lo65, hi65, A66, c66, lo66, hi66, hv, OwnL.ex good_Str h65 e, OwnL.ex good_Str h66 e, hr0, hr1, hr2⟩), StableI.det _, StableI.det _, trivial⟩) ⟨?_, ?_, ?_, ?_, ?_, ?_, trivial⟩ ?_
   ·exact fun _ _ h => os rfl ((yl_loadN (cs := [.string (bs (p_aW.Shift.Name)), .slice A1 p_aW.Shift.Ways.length c1, .slice A2 p_aW.Shift.At.length c2, .slice A3 p_aW.Shift.Store.length c3, .string (bs (p_aW.Up.Last)), .bool (p_aW.Up.Over), .string (bs (p_aW.Down.Last)), .bool (p_aW.Down.Over)]) Tryz.ty54 rfl (h.old 2 _ rfl rfl) ((Box.ex q50 h.ex).cells (n := 8) rfl) rfl kI))
   ·intro L74 w75 hi76
    have hE77 := hi76.ex
    refine OpR.op' rfl (yl_call Tryz.en17 rfl (opvs_cons (hi76.dt 0 20 rfl rfl rfl) opvs_nil) (Cal.mono (c_l_toWork p_aW (RdS.up (RdS.ex good_Table q52 hE77) good_Table) (RdS.up (RdS.ex good_Int q54 hE77) good_Int) (RdS.up (RdS.ex good_Write q56 hE77) good_Write) ((szok_Work pre0 (by decide) (dec_f hb28)).1)) ?_))
    rintro v86 w82 ⟨A83, c83, lo83, hi83, A84, c84, lo84, hi84, A85, c85, lo85, hi85, rfl, h83, h84, h85, hrn88, hrn89, hrn90, hrn91, hrn92, hrn93, hE87⟩
    exact ⟨⟨A83, c83, lo83, hi83, A84, c84, lo84, hi84, A85, c85, lo85, hi85, rfl, h83, h84, h85, hrn88, hrn89, hrn90, hrn91, hrn92, hrn93⟩, hE87⟩
   ·exact fun _ _ h => os rfl ((yl_loadN (cs := [.int .i64 (p_aA.Kind), .int .i64 (p_aA.Many), .int .i64 (p_aA.Act.Server), .int .i64 (p_aA.Act.Step), .int .i64 (p_aA.Act.Act.Kind), .slice A4 p_aA.Act.Act.Old.Vals.length c4, .slice A5 p_aA.Act.Act.New.Vals.length c5]) Tryz.ty56 rfl (h.old 3 _ rfl rfl) ((Box.ex q61 h.ex).cells (n := 7) rfl) rfl kI))
   ·intro L100 w101 hi102
    have hE103 := hi102.ex
    refine OpR.op' rfl (yl_call Tryz.en18 rfl (opvs_cons (hi102.dt 2 22 rfl rfl rfl) opvs_nil) (Cal.mono (c_l_toWorkAct p_aA (RdS.up (RdS.ex good_Str q62 hE103) good_Str) (RdS.up (RdS.ex good_Str q63 hE103) good_Str) ((szok_WorkAct pre1 (szok_Work pre0 (by decide) (dec_f hb28)).2 (dec_f hb43)).1)) ?_))
    rintro v110 w107 ⟨A108, c108, lo108, hi108, A109, c109, lo109, hi109, rfl, h108, h109, hrn112, hrn113, hrn114, hE111⟩
    exact ⟨⟨A108, c108, lo108, hi108, A109, c109, lo109, hi109, rfl, h108, h109, hrn112, hrn113, hrn114⟩, hE111⟩
   ·intro L115 w116 hi117
    obtain ⟨lo120, hh121, _, hx119, hr122, hr123, hr124, A58_125, c58_126, lo58_127, hi58_128, A59_129, c59_130, lo59_131, hi59_132, A60_133, c60_134, lo60_135, hi60_136, rfl, h137, h138, h139, hrn140, hrn141, hrn142, hrn143, hrn144, hrn145⟩ := hi117.dep 1 21 rfl rfl
    obtain ⟨lo147, hh148, _, hx146, hr149, hr150, hr151, A65_152, c65_153, lo65_154, hi65_155, A66_156, c66_157, lo66_158, hi66_159, rfl, h160, h161, hrn162, hrn163, hrn164⟩ := hi117.dep 3 23 rfl rfl
    refine OpR.op' rfl (yl_call Tryz.en16 rfl (opvs_cons hx119 (opvs_cons hx146 opvs_nil)) (Cal.mono (c_s_GoodWorkAct p_aW p_aA (RdS.up (OwnL.rd good_Table h137) good_Table) (RdS.up (OwnL.rd good_Int h138) good_Int) (RdS.up (OwnL.rd good_Write h139) good_Write) (RdS.up (OwnL.rd good_Str h160) good_Str) (RdS.up (OwnL.rd good_Str h161) good_Str) ((szok_Work pre0 (by decide) (dec_f hb28)).1) ((szok_WorkAct pre1 (szok_Work pre0 (by decide) (dec_f hb28)).2 (dec_f hb43)).1)) ?_))
    rintro v171 w170 ⟨rfl, hE172⟩
    exact ⟨rfl, hE172⟩
   ·exact fun _ _ h => os rfl ((yl_assign rfl (h.dt 4 24 rfl rfl rfl) kI))
   ·intro fl181 fh182 L178 w179 hp180
    have hE183 := hp180.ex
    have hE183z := Ex.size hE183
    have hr187 := hp180.rng 1 rfl
    obtain ⟨_, hx186, A58_188, c58_189, lo58_190, hi58_191, A59_192, c59_193, lo59_194, hi59_195, A60_196, c60_197, lo60_198, hi60_199, rfl, h200, h201, h202, hrn203, hrn204, hrn205, hrn206, hrn207, hrn208⟩ := hp180.new 1 21 rfl rfl
    have hr210 := hp180.rng 3 rfl
    have hsp211 := hp180.sep 1 3 rfl rfl rfl
    obtain ⟨_, hx209, A65_212, c65_213, lo65_214, hi65_215, A66_216, c66_217, lo66_218, hi66_219, rfl, h220, h221, hrn222, hrn223, hrn224⟩ := hp180.new 3 23 rfl rfl
    refine SeqR.done (tn (CW.sub (Sub.cons (d := 2) (hp180.old 2 _ rfl rfl) (Sub.cons (d := 3) (hp180.old 3 _ rfl rfl) (Sub.cons (d := 6) (hp180.nt 5 6 rfl rfl rfl) (Sub.nil _)))) (CW.seq (CW.region ?_))))
    have q226 := Box.ex q50 hE183
    refine sd rfl (yl_loadN (cs := [.string (bs (p_aW.Shift.Name)), .slice A1 p_aW.Shift.Ways.length c1, .slice A2 p_aW.Shift.At.length c2, .slice A3 p_aW.Shift.Store.length c3, .string (bs (p_aW.Up.Last)), .bool (p_aW.Up.Over), .string (bs (p_aW.Down.Last)), .bool (p_aW.Down.Over)]) Tryz.ty54 rfl rfl (q226.cells (n := 8) rfl) rfl ?_)
    have q227 := RdS.ex good_Table q52 hE183
    have q228 := RdS.ex good_Int q54 hE183
    have q229 := RdS.ex good_Write q56 hE183
    refine sd rfl (yl_call Tryz.en17 rfl (opvs_cons rfl opvs_nil) (Cal.mono (c_l_toWork p_aW (RdS.up q227 good_Table) (RdS.up q228 good_Int) (RdS.up q229 good_Write) ((szok_Work pre0 (by decide) (dec_f hb28)).1)) ?_))
    rintro v234 w230 ⟨A231, c231, lo231, hi231, A232, c232, lo232, hi232, A233, c233, lo233, hi233, rfl, h231, h232, h233, hrn236, hrn237, hrn238, hrn239, hrn240, hrn241, hE235⟩
    have hE235z := Ex.size hE235
    refine sd rfl (yl_alloc Tryz.ty62 (cs := [.string (bs (([] : Str))), .slice none 0 0, .slice none 0 0, .slice none 0 0, .string (bs (([] : Str))), .bool (false), .string (bs (([] : Str))), .bool (false)]) rfl rfl ?_)
    intro b242 w243 hs244 hz245 hB246 hE247
    refine SeqR.u rfl rfl (yl_store (vs := [.string (bs (p_aW.Shift.Name)), .slice A231 p_aW.Shift.Ways.length c231, .slice A232 p_aW.Shift.At.length c232, .slice A233 p_aW.Shift.Store.length c233, .string (bs (p_aW.Up.Last)), .bool (p_aW.Up.Over), .string (bs (p_aW.Down.Last)), .bool (p_aW.Down.Over)]) Tryz.ty62 rfl rfl rfl rfl rfl rfl hB246 (Nat.le_of_ble_eq_true rfl) ?_)
    intro w248 hB249 hO250
    have hB249 : Box w248 b242 62 [.string (bs (p_aW.Shift.Name)), .slice A231 p_aW.Shift.Ways.length c231, .slice A232 p_aW.Shift.At.length c232, .slice A233 p_aW.Shift.Store.length c233, .string (bs (p_aW.Up.Last)), .bool (p_aW.Up.Over), .string (bs (p_aW.Down.Last)), .bool (p_aW.Down.Over)] := hB249
    have hO250z := hO250.size
    refine SeqR.done (tn (CW.seq (CW.region ?_)))
    have q254 := Box.only (Box.ex (Box.ex (Box.ex q61 hE183) hE235) hE247) hO250 (by omega)
    refine sd rfl (yl_loadN (cs := [.int .i64 (p_aA.Kind), .int .i64 (p_aA.Many), .int .i64 (p_aA.Act.Server), .int .i64 (p_aA.Act.Step), .int .i64 (p_aA.Act.Act.Kind), .slice A4 p_aA.Act.Act.Old.Vals.length c4, .slice A5 p_aA.Act.Act.New.Vals.length c5]) Tryz.ty56 rfl rfl (q254.cells (n := 7) rfl) rfl ?_)
    have q258 := RdS.only good_Str (RdS.ex good_Str (RdS.ex good_Str (RdS.ex good_Str q62 hE183) hE235) hE247) hO250 (by simp only [Iv]; omega)
    have q262 := RdS.only good_Str (RdS.ex good_Str (RdS.ex good_Str (RdS.ex good_Str q63 hE183) hE235) hE247) hO250 (by simp only [Iv]; omega)
    refine sd rfl (yl_call Tryz.en18 rfl (opvs_cons rfl opvs_nil) (Cal.mono (c_l_toWorkAct p_aA (RdS.up q258 good_Str) (RdS.up q262 good_Str) ((szok_WorkAct pre1 (szok_Work pre0 (by decide) (dec_f hb28)).2 (dec_f hb43)).1)) ?_))
    rintro v266 w263 ⟨A264, c264, lo264, hi264, A265, c265, lo265, hi265, rfl, h264, h265, hrn268, hrn269, hrn270, hE267⟩
    have hE267z := Ex.size hE267
    refine sd rfl (yl_alloc Tryz.ty65 (cs := [.int .i64 (0), .int .i64 (0), .int .i64 (0), .int .i64 (0), .int .i64 (0), .slice none 0 0, .slice none 0 0]) rfl rfl ?_)
    intro b271 w272 hs273 hz274 hB275 hE276
    refine SeqR.u rfl rfl (yl_store (vs := [.int .i64 (p_aA.Kind), .int .i64 (p_aA.Many), .int .i64 (p_aA.Act.Server), .int .i64 (p_aA.Act.Step), .int .i64 (p_aA.Act.Act.Kind), .slice A264 p_aA.Act.Act.Old.Vals.length c264, .slice A265 p_aA.Act.Act.New.Vals.length c265]) Tryz.ty65 rfl rfl rfl rfl rfl rfl hB275 (Nat.le_of_ble_eq_true rfl) ?_)
    intro w277 hB278 hO279
    have hB278 : Box w277 b271 65 [.int .i64 (p_aA.Kind), .int .i64 (p_aA.Many), .int .i64 (p_aA.Act.Server), .int .i64 (p_aA.Act.Step), .int .i64 (p_aA.Act.Act.Kind), .slice A264 p_aA.Act.Act.Old.Vals.length c264, .slice A265 p_aA.Act.Act.New.Vals.length c265] := hB278
    have hO279z := hO279.size
    refine SeqR.done (tn (CW.seq (CW.region ?_)))
    have q282 := Box.only (Box.ex (Box.ex hB249 hE267) hE276) hO279 (by omega)
    refine sd rfl (yl_loadN (cs := [.string (bs (p_aW.Shift.Name)), .slice A231 p_aW.Shift.Ways.length c231, .slice A232 p_aW.Shift.At.length c232, .slice A233 p_aW.Shift.Store.length c233, .string (bs (p_aW.Up.Last)), .bool (p_aW.Up.Over), .string (bs (p_aW.Down.Last)), .bool (p_aW.Down.Over)]) Tryz.ty62 rfl rfl (q282.cells (n := 8) rfl) rfl (sd rfl (yl_loadN (cs := [.int .i64 (p_aA.Kind), .int .i64 (p_aA.Many), .int .i64 (p_aA.Act.Server), .int .i64 (p_aA.Act.Step), .int .i64 (p_aA.Act.Act.Kind), .slice A264 p_aA.Act.Act.Old.Vals.length c264, .slice A265 p_aA.Act.Act.New.Vals.length c265]) Tryz.ty65 rfl rfl (hB278.cells (n := 7) rfl) rfl ?_)))
    have q288 := OwnL.only good_Table (OwnL.ex good_Table (OwnL.ex good_Table (OwnL.only good_Table (OwnL.ex good_Table h231 hE247) hO250 (by omega)) hE267) hE276) hO279 (by omega)
    have q294 := OwnL.only good_Int (OwnL.ex good_Int (OwnL.ex good_Int (OwnL.only good_Int (OwnL.ex good_Int h232 hE247) hO250 (by omega)) hE267) hE276) hO279 (by omega)
    have q300 := OwnL.only good_Write (OwnL.ex good_Write (OwnL.ex good_Write (OwnL.only good_Write (OwnL.ex good_Write h233 hE247) hO250 (by omega)) hE267) hE276) hO279 (by omega)
    have q303 := OwnL.only good_Str (OwnL.ex good_Str h264 hE276) hO279 (by omega)
    have q306 := OwnL.only good_Str (OwnL.ex good_Str h265 hE276) hO279 (by omega)
    refine sd rfl (yl_call Tryz.en19 rfl (opvs_cons rfl (opvs_cons rfl opvs_nil)) (Cal.mono (c_i_GoodWorkAct p_aW p_aA (RdS.up (OwnL.rd good_Table q288) good_Table) (RdS.up (OwnL.rd good_Int q294) good_Int) (RdS.up (OwnL.rd good_Write q300) good_Write) (RdS.up (OwnL.rd good_Str q303) good_Str) (RdS.up (OwnL.rd good_Str q306) good_Str) ((szok_Work pre0 (by decide) (dec_f hb28)).1) ((szok_WorkAct pre1 (szok_Work pre0 (by decide) (dec_f hb28)).2 (dec_f hb43)).1)) ?_))
    rintro v308 w307 ⟨rfl, hE309⟩
    have hE309z := Ex.size hE309
    refine sd rfl (yl_assign rfl rfl (SeqR.done (tn (CW.seq (CW.seq (CW.region (sd rfl (yl_move rfl rfl (sd rfl (yl_move rfl rfl (sd rfl (yl_bneq Tryz.un4 rfl rfl rfl ?_))))))))))))
    refine SeqR.done (tn (bcase ((i_GoodWorkAct p_aW p_aA) == (s_GoodWorkAct p_aW p_aA)) (fun hb310 => ?_) (fun hb310 => ?_)))
    ·refine CW.cond_f rfl (not_t hb310) (CW.skip (tn (CW.seq (CW.seq (CW.drawsI 5 (vgetI [DetI (.agg #[.string (bs (p_aW.Shift.Name)), .slice A231 p_aW.Shift.Ways.length c231, .slice A232 p_aW.Shift.At.length c232, .slice A233 p_aW.Shift.Store.length c233, .string (bs (p_aW.Up.Last)), .bool (p_aW.Up.Over), .string (bs (p_aW.Down.Last)), .bool (p_aW.Down.Over)]), DetI (.agg #[.string (bs (p_aW.Shift.Name)), .slice A1 p_aW.Shift.Ways.length c1, .slice A2 p_aW.Shift.At.length c2, .slice A3 p_aW.Shift.Store.length c3, .string (bs (p_aW.Up.Last)), .bool (p_aW.Up.Over), .string (bs (p_aW.Down.Last)), .bool (p_aW.Down.Over)]), fun lo hi v wq => ∃ A341 c341 lo341 hi341 A342 c342 lo342 hi342 A343 c343 lo343 hi343, v = .agg #[.string (bs (p_aW.Shift.Name)), .slice A341 p_aW.Shift.Ways.length c341, .slice A342 p_aW.Shift.At.length c342, .slice A343 p_aW.Shift.Store.length c343, .string (bs (p_aW.Up.Last)), .bool (p_aW.Up.Over), .string (bs (p_aW.Down.Last)), .bool (p_aW.Down.Over)] ∧ OwnL wq lo341 hi341 95 3 R_Table A341 p_aW.Shift.Ways.length c341 p_aW.Shift.Ways ∧ OwnL wq lo342 hi342 3 1 (RF e_Int) A342 p_aW.Shift.At.length c342 p_aW.Shift.At ∧ OwnL wq lo343 hi343 112 3 (RF e_Write) A343 p_aW.Shift.Store.length c343 p_aW.Shift.Store ∧ (lo ≤ lo341 ∧ lo341 ≤ hi341 ∧ hi341 ≤ hi) ∧ (lo ≤ lo342 ∧ lo342 ≤ hi342 ∧ hi342 ≤ hi) ∧ (lo ≤ lo343 ∧ lo343 ≤ hi343 ∧ hi343 ≤ hi) ∧ (hi341 ≤ lo342 ∨ hi342 ≤ lo341) ∧ (hi341 ≤ lo343 ∨ hi343 ≤ lo341) ∧ (hi342 ≤ lo343 ∨ hi343 ≤ lo342), DetI (.bool ((l_eqWork p_aW p_aW))), DetI (.bool (!(l_eqWork p_aW p_aW)))]) Tryz.follows rfl rfl rfl rfl rfl rfl (vgetI_stable ⟨StableI.det _, StableI.det _, (fun _ _ _ _ _ ⟨A341, c341, lo341, hi341, A342, c342, lo342, hi342, A343, c343, lo343, hi343, hv, h341, h342, h343, hr0, hr1, hr2, hr3, hr4, hr5⟩ e => ⟨A341, c341, lo341, hi341, A342, c342, lo342, hi342, A343, c343, lo343, hi343, hv, OwnL.ex good_Table h341 e, OwnL.ex good_Int h342 e, OwnL.ex good_Write h343 e, hr0, hr1, hr2, hr3, hr4, hr5⟩), StableI.det _, StableI.det _, trivial⟩) ⟨?_, ?_, ?_, ?_, ?_, trivial⟩ ?_)))))
     ·exact fun _ _ h => os rfl ((yl_loadN (cs := [.string (bs (p_aW.Shift.Name)), .slice A231 p_aW.Shift.Ways.length c231, .slice A232 p_aW.Shift.At.length c232, .slice A233 p_aW.Shift.Store.length c233, .string (bs (p_aW.Up.Last)), .bool (p_aW.Up.Over), .string (bs (p_aW.Down.Last)), .bool (p_aW.Down.Over)]) Tryz.ty62 rfl (h.old 7 _ rfl rfl) ((Box.ex (Box.ex q282 hE309) h.ex).cells (n := 8) rfl) rfl kI))
     ·intro L357 w358 hi359
      have hE360 := hi359.ex
      have hE360z := Ex.size hE360
      exact os rfl ((yl_loadN (cs := [.string (bs (p_aW.Shift.Name)), .slice A1 p_aW.Shift.Ways.length c1, .slice A2 p_aW.Shift.At.length c2, .slice A3 p_aW.Shift.Store.length c3, .string (bs (p_aW.Up.Last)), .bool (p_aW.Up.Over), .string (bs (p_aW.Down.Last)), .bool (p_aW.Down.Over)]) Tryz.ty54 rfl (hi359.old 2 _ rfl rfl) ((Box.ex (Box.ex (Box.only (Box.ex (Box.ex (Box.only (Box.ex (Box.ex q226 hE235) hE247) hO250 (by omega)) hE267) hE276) hO279 (by omega)) hE309) hE360).cells (n := 8) rfl) rfl kI))
     ·intro L363 w364 hi365
      have hE366 := hi365.ex
      have hE366z := Ex.size hE366
      refine OpR.op' rfl (yl_call Tryz.en17 rfl (opvs_cons (hi365.dt 1 36 rfl rfl rfl) opvs_nil) (Cal.mono (c_l_toWork p_aW (RdS.up (RdS.ex good_Table (RdS.ex good_Table (RdS.only good_Table (RdS.ex good_Table (RdS.ex good_Table (RdS.only good_Table (RdS.ex good_Table (RdS.ex good_Table q227 hE235) hE247) hO250 (by simp only [Iv]; omega)) hE267) hE276) hO279 (by simp only [Iv]; omega)) hE309) hE366) good_Table) (RdS.up (RdS.ex good_Int (RdS.ex good_Int (RdS.only good_Int (RdS.ex good_Int (RdS.ex good_Int (RdS.only good_Int (RdS.ex good_Int (RdS.ex good_Int q228 hE235) hE247) hO250 (by simp only [Iv]; omega)) hE267) hE276) hO279 (by simp only [Iv]; omega)) hE309) hE366) good_Int) (RdS.up (RdS.ex good_Write (RdS.ex good_Write (RdS.only good_Write (RdS.ex good_Write (RdS.ex good_Write (RdS.only good_Write (RdS.ex good_Write (RdS.ex good_Write q229 hE235) hE247) hO250 (by simp only [Iv]; omega)) hE267) hE276) hO279 (by simp only [Iv]; omega)) hE309) hE366) good_Write) ((szok_Work pre0 (by decide) (dec_f hb28)).1)) ?_))
      rintro v375 w371 ⟨A372, c372, lo372, hi372, A373, c373, lo373, hi373, A374, c374, lo374, hi374, rfl, h372, h373, h374, hrn377, hrn378, hrn379, hrn380, hrn381, hrn382, hE376⟩
      exact ⟨⟨A372, c372, lo372, hi372, A373, c373, lo373, hi373, A374, c374, lo374, hi374, rfl, h372, h373, h374, hrn377, hrn378, hrn379, hrn380, hrn381, hrn382⟩, hE376⟩
     ·intro L383 w384 hi385
      have hE386 := hi385.ex
      obtain ⟨lo389, hh390, _, hx388, hr391, hr392, hr393, A341_394, c341_395, lo341_396, hi341_397, A342_398, c342_399, lo342_400, hi342_401, A343_402, c343_403, lo343_404, hi343_405, rfl, h406, h407, h408, hrn409, hrn410, hrn411, hrn412, hrn413, hrn414⟩ := hi385.dep 2 37 rfl rfl
      refine OpR.op' rfl (yl_call Tryz.en20 rfl (opvs_cons (hi385.dt 0 35 rfl rfl rfl) (opvs_cons hx388 opvs_nil)) (Cal.mono (c_l_eqWork p_aW p_aW (RdS.up (OwnL.rd good_Table (OwnL.ex good_Table (OwnL.ex good_Table q288 hE309) hE386)) good_Table) (RdS.up (OwnL.rd good_Int (OwnL.ex good_Int (OwnL.ex good_Int q294 hE309) hE386)) good_Int) (RdS.up (OwnL.rd good_Write (OwnL.ex good_Write (OwnL.ex good_Write q300 hE309) hE386)) good_Write) (RdS.up (OwnL.rd good_Table h406) good_Table) (RdS.up (OwnL.rd good_Int h407) good_Int) (RdS.up (OwnL.rd good_Write h408) good_Write)) ?_))
      rintro v425 w424 ⟨rfl, hE426⟩
      exact ⟨rfl, hE426⟩
     ·exact fun _ _ h => os rfl ((yl_not rfl (h.dt 3 38 rfl rfl rfl) kI))
     ·intro fl435 fh436 L432 w433 hp434
      have hE437 := hp434.ex
      have hE437z := Ex.size hE437
      have hr441 := hp434.rng 2 rfl
      obtain ⟨_, hx440, A341_442, c341_443, lo341_444, hi341_445, A342_446, c342_447, lo342_448, hi342_449, A343_450, c343_451, lo343_452, hi343_453, rfl, h454, h455, h456, hrn457, hrn458, hrn459, hrn460, hrn461, hrn462⟩ := hp434.new 2 37 rfl rfl
      refine SeqR.done (tn (CW.sub (Sub.cons (d := 3) (hp434.old 3 _ rfl rfl) (Sub.cons (d := 8) (hp434.old 8 _ rfl rfl) (Sub.cons (d := 39) (hp434.nt 4 39 rfl rfl rfl) (Sub.nil _)))) (bcase (l_eqWork p_aW p_aW) (fun hb464 => ?_) (fun hb464 => ?_))))
      ·refine CW.cond_f rfl (not_t hb464) (CW.skip (tn (CW.seq (CW.seq (CW.drawsI 5 (vgetI [DetI (.agg #[.int .i64 (p_aA.Kind), .int .i64 (p_aA.Many), .int .i64 (p_aA.Act.Server), .int .i64 (p_aA.Act.Step), .int .i64 (p_aA.Act.Act.Kind), .slice A264 p_aA.Act.Act.Old.Vals.length c264, .slice A265 p_aA.Act.Act.New.Vals.length c265]), DetI (.agg #[.int .i64 (p_aA.Kind), .int .i64 (p_aA.Many), .int .i64 (p_aA.Act.Server), .int .i64 (p_aA.Act.Step), .int .i64 (p_aA.Act.Act.Kind), .slice A4 p_aA.Act.Act.Old.Vals.length c4, .slice A5 p_aA.Act.Act.New.Vals.length c5]), fun lo hi v wq => ∃ A483 c483 lo483 hi483 A484 c484 lo484 hi484, v = .agg #[.int .i64 (p_aA.Kind), .int .i64 (p_aA.Many), .int .i64 (p_aA.Act.Server), .int .i64 (p_aA.Act.Step), .int .i64 (p_aA.Act.Act.Kind), .slice A483 p_aA.Act.Act.Old.Vals.length c483, .slice A484 p_aA.Act.Act.New.Vals.length c484] ∧ OwnL wq lo483 hi483 9 1 (RF e_Str) A483 p_aA.Act.Act.Old.Vals.length c483 p_aA.Act.Act.Old.Vals ∧ OwnL wq lo484 hi484 9 1 (RF e_Str) A484 p_aA.Act.Act.New.Vals.length c484 p_aA.Act.Act.New.Vals ∧ (lo ≤ lo483 ∧ lo483 ≤ hi483 ∧ hi483 ≤ hi) ∧ (lo ≤ lo484 ∧ lo484 ≤ hi484 ∧ hi484 ≤ hi) ∧ (hi483 ≤ lo484 ∨ hi484 ≤ lo483), DetI (.bool ((l_eqWorkAct p_aA p_aA))), DetI (.bool (!(l_eqWorkAct p_aA p_aA)))]) Tryz.follows rfl rfl rfl rfl rfl rfl (vgetI_stable ⟨StableI.det _, StableI.det _, (fun _ _ _ _ _ ⟨A483, c483, lo483, hi483, A484, c484, lo484, hi484, hv, h483, h484, hr0, hr1, hr2⟩ e => ⟨A483, c483, lo483, hi483, A484, c484, lo484, hi484, hv, OwnL.ex good_Str h483 e, OwnL.ex good_Str h484 e, hr0, hr1, hr2⟩), StableI.det _, StableI.det _, trivial⟩) ⟨?_, ?_, ?_, ?_, ?_, trivial⟩ ?_)))))
       ·exact fun _ _ h => os rfl ((yl_loadN (cs := [.int .i64 (p_aA.Kind), .int .i64 (p_aA.Many), .int .i64 (p_aA.Act.Server), .int .i64 (p_aA.Act.Step), .int .i64 (p_aA.Act.Act.Kind), .slice A264 p_aA.Act.Act.Old.Vals.length c264, .slice A265 p_aA.Act.Act.New.Vals.length c265]) Tryz.ty65 rfl (h.old 8 _ rfl rfl) ((Box.ex (Box.ex (Box.ex hB278 hE309) hE437) h.ex).cells (n := 7) rfl) rfl kI))
       ·intro L498 w499 hi500
        have hE501 := hi500.ex
        have hE501z := Ex.size hE501
        exact os rfl ((yl_loadN (cs := [.int .i64 (p_aA.Kind), .int .i64 (p_aA.Many), .int .i64 (p_aA.Act.Server), .int .i64 (p_aA.Act.Step), .int .i64 (p_aA.Act.Act.Kind), .slice A4 p_aA.Act.Act.Old.Vals.length c4, .slice A5 p_aA.Act.Act.New.Vals.length c5]) Tryz.ty56 rfl (hi500.old 3 _ rfl rfl) ((Box.ex (Box.ex (Box.ex (Box.only (Box.ex (Box.ex q254 hE267) hE276) hO279 (by omega)) hE309) hE437) hE501).cells (n := 7) rfl) rfl kI))
       ·intro L504 w505 hi506
        have hE507 := hi506.ex
        have hE507z := Ex.size hE507
        refine OpR.op' rfl (yl_call Tryz.en18 rfl (opvs_cons (hi506.dt 1 41 rfl rfl rfl) opvs_nil) (Cal.mono (c_l_toWorkAct p_aA (RdS.up (RdS.ex good_Str (RdS.ex good_Str (RdS.ex good_Str (RdS.only good_Str (RdS.ex good_Str (RdS.ex good_Str q258 hE267) hE276) hO279 (by simp only [Iv]; omega)) hE309) hE437) hE507) good_Str) (RdS.up (RdS.ex good_Str (RdS.ex good_Str (RdS.ex good_Str (RdS.only good_Str (RdS.ex good_Str (RdS.ex good_Str q262 hE267) hE276) hO279 (by simp only [Iv]; omega)) hE309) hE437) hE507) good_Str) ((szok_WorkAct pre1 (szok_Work pre0 (by decide) (dec_f hb28)).2 (dec_f hb43)).1)) ?_))
        rintro v514 w511 ⟨A512, c512, lo512, hi512, A513, c513, lo513, hi513, rfl, h512, h513, hrn516, hrn517, hrn518, hE515⟩
        exact ⟨⟨A512, c512, lo512, hi512, A513, c513, lo513, hi513, rfl, h512, h513, hrn516, hrn517, hrn518⟩, hE515⟩
       ·intro L519 w520 hi521
        have hE522 := hi521.ex
        obtain ⟨lo525, hh526, _, hx524, hr527, hr528, hr529, A483_530, c483_531, lo483_532, hi483_533, A484_534, c484_535, lo484_536, hi484_537, rfl, h538, h539, hrn540, hrn541, hrn542⟩ := hi521.dep 2 42 rfl rfl
        refine OpR.op' rfl (yl_call Tryz.en21 rfl (opvs_cons (hi521.dt 0 40 rfl rfl rfl) (opvs_cons hx524 opvs_nil)) (Cal.mono (c_l_eqWorkAct p_aA p_aA (RdS.up (OwnL.rd good_Str (OwnL.ex good_Str (OwnL.ex good_Str (OwnL.ex good_Str q303 hE309) hE437) hE522)) good_Str) (RdS.up (OwnL.rd good_Str (OwnL.ex good_Str (OwnL.ex good_Str (OwnL.ex good_Str q306 hE309) hE437) hE522)) good_Str) (RdS.up (OwnL.rd good_Str h538) good_Str) (RdS.up (OwnL.rd good_Str h539) good_Str)) ?_))
        rintro v550 w549 ⟨rfl, hE551⟩
        exact ⟨rfl, hE551⟩
       ·exact fun _ _ h => os rfl ((yl_not rfl (h.dt 3 43 rfl rfl rfl) kI))
       ·intro fl560 fh561 L557 w558 hp559
        have hE562 := hp559.ex
        have hE562z := Ex.size hE562
        have hr564 := hp559.rng 2 rfl
        obtain ⟨_, hx563, A483_565, c483_566, lo483_567, hi483_568, A484_569, c484_570, lo484_571, hi484_572, rfl, h573, h574, hrn575, hrn576, hrn577⟩ := hp559.new 2 42 rfl rfl
        refine SeqR.done (tn (CW.sub (Sub.cons (d := 44) (hp559.nt 4 44 rfl rfl rfl) (Sub.nil _)) (bcase (l_eqWorkAct p_aA p_aA) (fun hb579 => ?_) (fun hb579 => ?_))))
        ·refine CW.cond_f rfl (not_t hb579) (CW.skip (tn (CW.seq (CW.region (sd rfl (yl_assign rfl rfl (SeqR.done (tn (CW.ret ?_)))))))))
         refine rr rfl (.cons rfl .nil) ?_
         have hM580 : (l_FnExactGoodWorkAct p_aW p_aA) = (true) := by simp only [l_FnExactGoodWorkAct, hb28, hb43, hb310, hb464, hb579, cond_true, cond_false, loopE_done, loopE_ret]
         rw [hM580]
         exact ⟨rfl, (Ex.trans (Ex.trans (Ex.trans (Below.only (Ex.trans (Ex.trans (Below.only (Ex.trans (Ex.trans (Ex.trans (Ex.trans (Ex.trans (Ex.trans (Ex.trans (Ex.refl w) hE11) hE17) hE27) hE42) hE183) hE235) hE247) hO250 (by omega)) hE267) hE276) hO279 (by omega)) hE309) hE437) hE562)⟩
        ·refine CW.cond_t rfl (not_f hb579) (CW.seq (CW.region (sd rfl (yl_assign rfl rfl (SeqR.done (tn (CW.ret (tr (rr rfl (.cons rfl .nil) ?_)))))))))
         have hM595 : (l_FnExactGoodWorkAct p_aW p_aA) = (false) := by simp only [l_FnExactGoodWorkAct, hb28, hb43, hb310, hb464, hb579, cond_true, cond_false, loopE_done, loopE_ret]
         rw [hM595]
         exact ⟨rfl, (Ex.trans (Ex.trans (Ex.trans (Below.only (Ex.trans (Ex.trans (Below.only (Ex.trans (Ex.trans (Ex.trans (Ex.trans (Ex.trans (Ex.trans (Ex.trans (Ex.refl w) hE11) hE17) hE27) hE42) hE183) hE235) hE247) hO250 (by omega)) hE267) hE276) hO279 (by omega)) hE309) hE437) hE562)⟩
      ·refine CW.cond_t rfl (not_f hb464) (CW.seq (CW.region (sd rfl (yl_assign rfl rfl (SeqR.done (tn (CW.ret (tr (rr rfl (.cons rfl .nil) ?_)))))))))
       have hM610 : (l_FnExactGoodWorkAct p_aW p_aA) = (false) := by simp only [l_FnExactGoodWorkAct, hb28, hb43, hb310, hb464, cond_true, cond_false, loopE_done, loopE_ret]
       rw [hM610]
       exact ⟨rfl, (Ex.trans (Ex.trans (Below.only (Ex.trans (Ex.trans (Below.only (Ex.trans (Ex.trans (Ex.trans (Ex.trans (Ex.trans (Ex.trans (Ex.trans (Ex.refl w) hE11) hE17) hE27) hE42) hE183) hE235) hE247) hO250 (by omega)) hE267) hE276) hO279 (by omega)) hE309) hE437)⟩
    ·refine CW.cond_t rfl (not_f hb310) (CW.seq (CW.region (sd rfl (yl_assign rfl rfl (SeqR.done (tn (CW.ret (tr (rr rfl (.cons rfl .nil) ?_)))))))))
     have hM624 : (l_FnExactGoodWorkAct p_aW p_aA) = (false) := by simp only [l_FnExactGoodWorkAct, hb28, hb43, hb310, cond_true, cond_false, loopE_done, loopE_ret]
     rw [hM624]
     exact ⟨rfl, (Ex.trans (Below.only (Ex.trans (Ex.trans (Below.only (Ex.trans (Ex.trans (Ex.trans (Ex.trans (Ex.trans (Ex.trans (Ex.trans (Ex.refl w) hE11) hE17) hE27) hE42) hE183) hE235) hE247) hO250 (by omega)) hE267) hE276) hO279 (by omega)) hE309)⟩
end Go.Proofs.YtfmepgbpbbneaaaGreat
