/- Ops For: what each call returns, part 5. -/
import Derived.Test.YtjeafbkejeallaaOpsForC4
set_option linter.unusedVariables false
set_option linter.unusedSimpArgs false
namespace Go.Proofs.Ytjeafbkejeallaa
open Go.RowKit Go.X
set_option maxRecDepth 100000 in
set_option maxHeartbeats 2000000 in
theorem c_l_FnExactOpsFor {A1 : Option Addr} {c1 : Nat} {A2 : Option Addr} {c2 : Nat} {A3 : Option Addr} {c3 : Nat} {A4 : Option Addr} {c4 : Nat} {w : World} (p_0 : DTable) (p_1 : DRowAct) (h1 : RdS w (Iv 0 w.heap.size) (RF e_Str) 1 A1 p_0.Cols.length c1 p_0.Cols) (h2 : RdS w (Iv 0 w.heap.size) (RF e_Idx) 3 A2 p_0.Idxs.length c2 p_0.Idxs) (h3 : RdS w (Iv 0 w.heap.size) (RF e_Str) 1 A3 p_1.Old.Vals.length c3 p_1.Old.Vals) (h4 : RdS w (Iv 0 w.heap.size) (RF e_Str) 1 A4 p_1.New.Vals.length c4 p_1.New.Vals) (pre0 : wf_Table p_0) (pre1 : wf_RowAct p_1) : Cal Try.prog 10 #[.agg #[.string (bs (p_0.Name)), .slice A1 p_0.Cols.length c1, .slice A2 p_0.Idxs.length c2], .agg #[.int .i64 (p_1.Kind), .slice A3 p_1.Old.Vals.length c3, .slice A4 p_1.New.Vals.length c4]] w fun v w' => v = .bool ((l_FnExactOpsFor p_0 p_1)) ∧ Ex w w' := by
 refine Cal.of (vs := [.agg #[.string (bs (p_0.Name)), .slice A1 p_0.Cols.length c1, .slice A2 p_0.Idxs.length c2], .agg #[.int .i64 (p_1.Kind), .slice A3 p_1.Old.Vals.length c3, .slice A4 p_1.New.Vals.length c4]]) Try.func10 rfl Try.ntmps10 rfl (CW.seq (CW.region (sd rfl (yl_box (cs := [.string (bs (p_0.Name)), .slice A1 p_0.Cols.length c1, .slice A2 p_0.Idxs.length c2]) rfl rfl rfl ?_))))
 intro b5 w6 hs7 hz8 hB9 hE10
 refine sd rfl (yl_box (cs := [.int .i64 (p_1.Kind), .slice A3 p_1.Old.Vals.length c3, .slice A4 p_1.New.Vals.length c4]) rfl rfl rfl ?_)
 intro b11 w12 hs13 hz14 hB15 hE16
 refine sd rfl (yl_assign rfl rfl (SeqR.done (tn (CW.seq (CW.region (sd rfl (yl_assign rfl rfl (SeqR.done (tn (CW.seq ?_))))))))))
 refine CW.region ?_
 have q17 := Box.ex hB9 hE16
 refine sd rfl (yl_loadN (cs := [.string (bs (p_0.Name)), .slice A1 p_0.Cols.length c1, .slice A2 p_0.Idxs.length c2]) Try.ty55 rfl rfl (q17.cells (n := 3) rfl) rfl (sd rfl (yl_move rfl rfl ?_)))
 have q19 := RdS.ex good_Str (RdS.ex good_Str h1 hE10) hE16
 have q21 := RdS.ex good_Idx (RdS.ex good_Idx h2 hE10) hE16
 refine sd rfl (yl_call Try.en32 rfl (opvs_cons rfl (opvs_cons rfl opvs_nil)) (Cal.mono (c_l_szTable p_0 1048576 (RdS.up q19 good_Str) (RdS.up q21 good_Idx)) ?_))
 rintro v23 w22 ⟨rfl, hE24⟩
 have hE24z := Ex.size hE24
 refine sd rfl (yl_assign rfl rfl (SeqR.done (tn (CW.seq (CW.seq (CW.region (sd rfl (yl_move rfl rfl (sd rfl (yl_lss rfl rfl rfl (SeqR.done ?_)))))))))))
 refine tn (bcase (decide ((l_szTable p_0 1048576) < 0)) (fun hb25 => ?_) (fun hb25 => ?_))
 ·have hb25p := dec_t hb25
  refine CW.cond_t rfl hb25 (CW.seq (CW.region (sd rfl (yl_assign rfl rfl (SeqR.done (tn (CW.ret (tr (rr rfl (.cons rfl .nil) ?_)))))))))
  have hM26 : (l_FnExactOpsFor p_0 p_1) = (true) := by simp only [l_FnExactOpsFor, hb25, cond_true, cond_false, loopE_done, loopE_ret]
  rw [hM26]
  exact ⟨rfl, (Ex.trans (Ex.trans (Ex.trans (Ex.refl w) hE10) hE16) hE24)⟩
 ·have hb25p := dec_f hb25
  refine CW.cond_f rfl hb25 (CW.skip (tn (CW.seq (CW.region ?_))))
  have q30 := Box.ex hB15 hE24
  refine sd rfl (yl_loadN (cs := [.int .i64 (p_1.Kind), .slice A3 p_1.Old.Vals.length c3, .slice A4 p_1.New.Vals.length c4]) Try.ty89 rfl rfl (q30.cells (n := 3) rfl) rfl (sd rfl (yl_move rfl rfl ?_)))
  have q33 := RdS.ex good_Str (RdS.ex good_Str (RdS.ex good_Str h3 hE10) hE16) hE24
  have q36 := RdS.ex good_Str (RdS.ex good_Str (RdS.ex good_Str h4 hE10) hE16) hE24
  refine sd rfl (yl_call Try.en56 rfl (opvs_cons rfl (opvs_cons rfl opvs_nil)) (Cal.mono (c_l_szRowAct p_1 (l_szTable p_0 1048576) (RdS.up q33 good_Str) (RdS.up q36 good_Str)) ?_))
  rintro v38 w37 ⟨rfl, hE39⟩
  have hE39z := Ex.size hE39
  refine sd rfl (yl_assign rfl rfl (SeqR.done (tn (CW.seq (CW.seq (CW.region (sd rfl (yl_move rfl rfl (sd rfl (yl_lss rfl rfl rfl (SeqR.done ?_)))))))))))
  refine tn (bcase (decide ((l_szRowAct p_1 (l_szTable p_0 1048576)) < 0)) (fun hb40 => ?_) (fun hb40 => ?_))
  ·have hb40p := dec_t hb40
   refine CW.cond_t rfl hb40 (CW.seq (CW.region (sd rfl (yl_assign rfl rfl (SeqR.done (tn (CW.ret (tr (rr rfl (.cons rfl .nil) ?_)))))))))
   have hM41 : (l_FnExactOpsFor p_0 p_1) = (true) := by simp only [l_FnExactOpsFor, hb25, hb40, cond_true, cond_false, loopE_done, loopE_ret]
   rw [hM41]
   exact ⟨rfl, (Ex.trans (Ex.trans (Ex.trans (Ex.trans (Ex.refl w) hE10) hE16) hE24) hE39)⟩
  ·have hb40p := dec_f hb40
   refine CW.cond_f rfl hb40 (CW.skip (tn (CW.seq ?_)))
   have q47 := Box.ex (Box.ex q17 hE24) hE39
   have q49 := RdS.ex good_Str (RdS.ex good_Str q19 hE24) hE39
   have q51 := RdS.ex good_Idx (RdS.ex good_Idx q21 hE24) hE39
   have q55 := Box.ex q30 hE39
   have q56 := RdS.ex good_Str q33 hE39
   have q57 := RdS.ex good_Str q36 hE39
   refine CW.drawsI 10 (vgetI [DetI (.agg #[.string (bs (p_0.Name)), .slice A1 p_0.Cols.length c1, .slice A2 p_0.Idxs.length c2]), fun lo hi v wq => ∃ A53 c53 lo53 hi53 A54 c54 lo54 hi54, v = .agg #[.string (bs (p_0.Name)), .slice A53 p_0.Cols.length c53, .slice A54 p_0.Idxs.length c54] ∧ OwnL wq lo53 hi53 9 1 (RF e_Str) A53 p_0.Cols.length c53 p_0.Cols ∧ OwnL wq lo54 hi54 152 3 (RF e_Idx) A54 p_0.Idxs.length c54 p_0.Idxs ∧ (lo ≤ lo53 ∧ lo53 ≤ hi53 ∧ hi53 ≤ hi) ∧ (lo ≤ lo54 ∧ lo54 ≤ hi54 ∧ hi54 ≤ hi) ∧ (hi53 ≤ lo54 ∨ hi54 ≤ lo53), DetI (.agg #[.int .i64 (p_1.Kind), .slice A3 p_1.Old.Vals.length c3, .slice A4 p_1.New.Vals.length c4]), fun lo hi v wq => ∃ A59 c59 lo59 hi59 A60 c60 lo60 hi60, v = .agg #[.int .i64 (p_1.Kind), .slice A59 p_1.Old.Vals.length c59, .slice A60 p_1.New.Vals.length c60] ∧ OwnL wq lo59 hi59 9 1 (RF e_Str) A59 p_1.Old.Vals.length c59 p_1.Old.Vals ∧ OwnL wq lo60 hi60 9 1 (RF e_Str) A60 p_1.New.Vals.length c60 p_1.New.Vals ∧ (lo ≤ lo59 ∧ lo59 ≤ hi59 ∧ hi59 ≤ hi) ∧ (lo ≤ lo60 ∧ lo60 ≤ hi60 ∧ hi60 ≤ hi) ∧ (hi59 ≤ lo60 ∨ hi60 ≤ lo59), fun lo hi v wq => ∃ A62 c62 lo62 hi62, v = .tuple #[.slice A62 (((s_OpsFor p_0 p_1).1).length) c62, .bool ((s_OpsFor p_0 p_1).2)] ∧ OwnL wq lo62 hi62 163 4 (RF e_Op) A62 (((s_OpsFor p_0 p_1).1).length) c62 ((s_OpsFor p_0 p_1).1) ∧ (lo ≤ lo62 ∧ lo62 ≤ hi62 ∧ hi62 ≤ hi), fun lo hi v wq => ∃ A62 c62, v = .tuple #[.slice A62 (((s_OpsFor p_0 p_1).1).length) c62, .bool ((s_OpsFor p_0 p_1).2)] ∧ RdS wq (Ge w37.heap.size) (RF e_Op) 4 A62 ((s_OpsFor p_0 p_1).1).length c62 ((s_OpsFor p_0 p_1).1), fun lo hi v wq => ∃ A62 c62, v = .slice A62 (((s_OpsFor p_0 p_1).1).length) c62 ∧ RdS wq (Ge w37.heap.size) (RF e_Op) 4 A62 ((s_OpsFor p_0 p_1).1).length c62 ((s_OpsFor p_0 p_1).1), DetI (.bool ((s_OpsFor p_0 p_1).2)), fun lo hi v wq => ∃ A62 c62, v = .slice A62 (((s_OpsFor p_0 p_1).1).length) c62 ∧ RdS wq (Ge w37.heap.size) (RF e_Op) 4 A62 ((s_OpsFor p_0 p_1).1).length c62 ((s_OpsFor p_0 p_1).1), DetI (.bool ((s_OpsFor p_0 p_1).2))]) Try.follows rfl rfl rfl rfl rfl rfl (vgetI_stable ⟨StableI.det _, (fun _ _ _ _ _ ⟨A53, c53, lo53, hi53, A54, c54, lo54, hi54, hv, h53, h54, hr0, hr1, hr2⟩ e => ⟨A53, c53, lo53, hi53, A54, c54, lo54, hi54, hv, OwnL.ex good_Str h53 e, OwnL.ex good_Idx h54 e, hr0, hr1, hr2⟩), StableI.det _, (fun _ _ _ _ _ ⟨A59, c59, lo59, hi59, A60, c60, lo60, hi60, hv, h59, h60, hr0, hr1, hr2⟩ e => ⟨A59, c59, lo59, hi59, A60, c60, lo60, hi60, hv, OwnL.ex good_Str h59 e, OwnL.ex good_Str h60 e, hr0, hr1, hr2⟩), (fun _ _ _ _ _ ⟨A62, c62, lo62, hi62, hv, h62, hr0⟩ e => ⟨A62, c62, lo62, hi62, hv, OwnL.ex good_Op h62 e, hr0⟩), (fun _ _ _ _ _ ⟨A62, c62, hv, h63⟩ e => ⟨A62, c62, hv, RdS.ex good_Op h63 e⟩), (fun _ _ _ _ _ ⟨A62, c62, hv, h64⟩ e => ⟨A62, c62, hv, RdS.ex good_Op h64 e⟩), StableI.det _, (fun _ _ _ _ _ ⟨A62, c62, hv, h65⟩ e => ⟨A62, c62, hv, RdS.ex good_Op h65 e⟩), StableI.det _, trivial⟩) ⟨?_, ?_, ?_, ?_, ?_, ?_, ?_, ?_, ?_, ?_, trivial⟩ ?_
   ·exact fun _ _ h => os rfl ((yl_loadN (cs := [.string (bs (p_0.Name)), .slice A1 p_0.Cols.length c1, .slice A2 p_0.Idxs.length c2]) Try.ty55 rfl (h.old 2 _ rfl rfl) ((Box.ex q47 h.ex).cells (n := 3) rfl) rfl kI))
   ·intro L72 w73 hi74
    have hE75 := hi74.ex
    refine OpR.op' rfl (yl_call Try.en35 rfl (opvs_cons (hi74.dt 0 28 rfl rfl rfl) opvs_nil) (Cal.mono (c_l_toTable p_0 (RdS.up (RdS.ex good_Str q49 hE75) good_Str) (RdS.up (RdS.ex good_Idx q51 hE75) good_Idx) ((szok_Table pre0 (by decide) (dec_f hb25)).1)) ?_))
    rintro v82 w79 ⟨A80, c80, lo80, hi80, A81, c81, lo81, hi81, rfl, h80, h81, hrn84, hrn85, hrn86, hE83⟩
    exact ⟨⟨A80, c80, lo80, hi80, A81, c81, lo81, hi81, rfl, h80, h81, hrn84, hrn85, hrn86⟩, hE83⟩
   ·exact fun _ _ h => os rfl ((yl_loadN (cs := [.int .i64 (p_1.Kind), .slice A3 p_1.Old.Vals.length c3, .slice A4 p_1.New.Vals.length c4]) Try.ty89 rfl (h.old 3 _ rfl rfl) ((Box.ex q55 h.ex).cells (n := 3) rfl) rfl kI))
   ·intro L93 w94 hi95
    have hE96 := hi95.ex
    refine OpR.op' rfl (yl_call Try.en58 rfl (opvs_cons (hi95.dt 2 30 rfl rfl rfl) opvs_nil) (Cal.mono (c_l_toRowAct p_1 (RdS.up (RdS.ex good_Str q56 hE96) good_Str) (RdS.up (RdS.ex good_Str q57 hE96) good_Str) ((szok_RowAct pre1 (szok_Table pre0 (by decide) (dec_f hb25)).2 (dec_f hb40)).1)) ?_))
    rintro v103 w100 ⟨A101, c101, lo101, hi101, A102, c102, lo102, hi102, rfl, h101, h102, hrn105, hrn106, hrn107, hE104⟩
    exact ⟨⟨A101, c101, lo101, hi101, A102, c102, lo102, hi102, rfl, h101, h102, hrn105, hrn106, hrn107⟩, hE104⟩
   ·intro L108 w109 hi110
    obtain ⟨lo113, hh114, _, hx112, hr115, hr116, hr117, A53_118, c53_119, lo53_120, hi53_121, A54_122, c54_123, lo54_124, hi54_125, rfl, h126, h127, hrn128, hrn129, hrn130⟩ := hi110.dep 1 29 rfl rfl
    obtain ⟨lo132, hh133, _, hx131, hr134, hr135, hr136, A59_137, c59_138, lo59_139, hi59_140, A60_141, c60_142, lo60_143, hi60_144, rfl, h145, h146, hrn147, hrn148, hrn149⟩ := hi110.dep 3 31 rfl rfl
    refine OpR.op' rfl (yl_call Try.en57 rfl (opvs_cons hx112 (opvs_cons hx131 opvs_nil)) (Cal.mono (c_s_OpsFor p_0 p_1 (RdS.up (OwnL.rd good_Str h126) good_Str) (RdS.up (OwnL.rd good_Idx h127) good_Idx) (RdS.up (OwnL.rd good_Str h145) good_Str) (RdS.up (OwnL.rd good_Str h146) good_Str) ((szok_Table pre0 (by decide) (dec_f hb25)).1) ((szok_RowAct pre1 (szok_Table pre0 (by decide) (dec_f hb25)).2 (dec_f hb40)).1)) ?_))
    rintro v156 w154 ⟨A155, c155, lo155, hi155, rfl, h155, hrn158, hE157⟩
    exact ⟨⟨A155, c155, lo155, hi155, rfl, h155, hrn158⟩, hE157⟩
   ·intro L159 w160 hi161
    have hE162 := hi161.ex
    have hE162z := Ex.size hE162
    obtain ⟨lo164, hh165, _, hx163, hr166, hr167, hr168, A62_169, c62_170, lo62_171, hi62_172, rfl, h173, hrn174⟩ := hi161.dep 4 32 rfl rfl
    exact os rfl ((yl_move rfl hx163 ⟨fun _ _ => ⟨A62_169, c62_170, rfl, (RdS.ivG good_Op (OwnL.rd good_Op h173) (by omega))⟩, rfl⟩))
   ·intro L175 w176 hi177
    obtain ⟨lo180, hh181, _, hx179, hr182, hr183, hr184, A62_185, c62_186, rfl, h187⟩ := hi177.dep 5 27 rfl rfl
    exact os rfl ((yl_extract rfl hx179 rfl ⟨fun _ _ => ⟨A62_185, c62_186, rfl, h187⟩, rfl⟩))
   ·intro L188 w189 hi190
    obtain ⟨lo193, hh194, _, hx192, hr195, hr196, hr197, A62_198, c62_199, rfl, h200⟩ := hi190.dep 5 27 rfl rfl
    exact os rfl ((yl_extract rfl hx192 rfl kI))
   ·intro L201 w202 hi203
    obtain ⟨lo206, hh207, _, hx205, hr208, hr209, hr210, A62_211, c62_212, rfl, h213⟩ := hi203.dep 6 33 rfl rfl
    exact os rfl ((yl_assign rfl hx205 ⟨fun _ _ => ⟨A62_211, c62_212, rfl, h213⟩, rfl⟩))
   ·exact fun _ _ h => os rfl ((yl_assign rfl (h.dt 7 34 rfl rfl rfl) kI))
   ·intro fl222 fh223 L219 w220 hp221
    have hE224 := hp221.ex
    have hE224z := Ex.size hE224
    have hr228 := hp221.rng 1 rfl
    obtain ⟨_, hx227, A53_229, c53_230, lo53_231, hi53_232, A54_233, c54_234, lo54_235, hi54_236, rfl, h237, h238, hrn239, hrn240, hrn241⟩ := hp221.new 1 29 rfl rfl
    have hr243 := hp221.rng 3 rfl
    have hsp244 := hp221.sep 1 3 rfl rfl rfl
    obtain ⟨_, hx242, A59_245, c59_246, lo59_247, hi59_248, A60_249, c60_250, lo60_251, hi60_252, rfl, h253, h254, hrn255, hrn256, hrn257⟩ := hp221.new 3 31 rfl rfl
    have hr259 := hp221.rng 4 rfl
    have hsp260 := hp221.sep 1 4 rfl rfl rfl
    have hsp261 := hp221.sep 3 4 rfl rfl rfl
    obtain ⟨_, hx258, A62_262, c62_263, lo62_264, hi62_265, rfl, h266, hrn267⟩ := hp221.new 4 32 rfl rfl
    obtain ⟨_, hx268, A62_269, c62_270, rfl, h271⟩ := hp221.new 8 6 rfl rfl
    have hq272 := RdS.wideG good_Op h271 (Nat.le_refl _)
    refine SeqR.done (tn (CW.sub (Sub.cons (d := 2) (hp221.old 2 _ rfl rfl) (Sub.cons (d := 3) (hp221.old 3 _ rfl rfl) (Sub.cons (d := 6) hx268 (Sub.cons (d := 7) (hp221.nt 9 7 rfl rfl rfl) (Sub.nil _))))) (CW.seq (CW.region ?_))))
    have q274 := Box.ex q47 hE224
    refine sd rfl (yl_loadN (cs := [.string (bs (p_0.Name)), .slice A1 p_0.Cols.length c1, .slice A2 p_0.Idxs.length c2]) Try.ty55 rfl rfl (q274.cells (n := 3) rfl) rfl ?_)
    have q275 := RdS.ex good_Str q49 hE224
    have q276 := RdS.ex good_Idx q51 hE224
    refine sd rfl (yl_call Try.en35 rfl (opvs_cons rfl opvs_nil) (Cal.mono (c_l_toTable p_0 (RdS.up q275 good_Str) (RdS.up q276 good_Idx) ((szok_Table pre0 (by decide) (dec_f hb25)).1)) ?_))
    rintro v280 w277 ⟨A278, c278, lo278, hi278, A279, c279, lo279, hi279, rfl, h278, h279, hrn282, hrn283, hrn284, hE281⟩
    have hE281z := Ex.size hE281
    refine sd rfl (yl_alloc Try.ty65 (cs := [.string (bs (([] : Str))), .slice none 0 0, .slice none 0 0]) rfl rfl ?_)
    intro b285 w286 hs287 hz288 hB289 hE290
    refine SeqR.u rfl rfl (yl_store (vs := [.string (bs (p_0.Name)), .slice A278 p_0.Cols.length c278, .slice A279 p_0.Idxs.length c279]) Try.ty65 rfl rfl rfl rfl rfl rfl hB289 (Nat.le_of_ble_eq_true rfl) ?_)
    intro w291 hB292 hO293
    have hB292 : Box w291 b285 65 [.string (bs (p_0.Name)), .slice A278 p_0.Cols.length c278, .slice A279 p_0.Idxs.length c279] := hB292
    have hO293z := hO293.size
    refine SeqR.done (tn (CW.seq (CW.region ?_)))
    have q297 := Box.only (Box.ex (Box.ex (Box.ex q55 hE224) hE281) hE290) hO293 (by omega)
    refine sd rfl (yl_loadN (cs := [.int .i64 (p_1.Kind), .slice A3 p_1.Old.Vals.length c3, .slice A4 p_1.New.Vals.length c4]) Try.ty89 rfl rfl (q297.cells (n := 3) rfl) rfl ?_)
    have q301 := RdS.only good_Str (RdS.ex good_Str (RdS.ex good_Str (RdS.ex good_Str q56 hE224) hE281) hE290) hO293 (by simp only [Iv]; omega)
    have q305 := RdS.only good_Str (RdS.ex good_Str (RdS.ex good_Str (RdS.ex good_Str q57 hE224) hE281) hE290) hO293 (by simp only [Iv]; omega)
    refine sd rfl (yl_call Try.en58 rfl (opvs_cons rfl opvs_nil) (Cal.mono (c_l_toRowAct p_1 (RdS.up q301 good_Str) (RdS.up q305 good_Str) ((szok_RowAct pre1 (szok_Table pre0 (by decide) (dec_f hb25)).2 (dec_f hb40)).1)) ?_))
    rintro v309 w306 ⟨A307, c307, lo307, hi307, A308, c308, lo308, hi308, rfl, h307, h308, hrn311, hrn312, hrn313, hE310⟩
    have hE310z := Ex.size hE310
    refine sd rfl (yl_alloc Try.ty93 (cs := [.int .i64 (0), .slice none 0 0, .slice none 0 0]) rfl rfl ?_)
    intro b314 w315 hs316 hz317 hB318 hE319
    refine SeqR.u rfl rfl (yl_store (vs := [.int .i64 (p_1.Kind), .slice A307 p_1.Old.Vals.length c307, .slice A308 p_1.New.Vals.length c308]) Try.ty93 rfl rfl rfl rfl rfl rfl hB318 (Nat.le_of_ble_eq_true rfl) ?_)
    intro w320 hB321 hO322
    have hB321 : Box w320 b314 93 [.int .i64 (p_1.Kind), .slice A307 p_1.Old.Vals.length c307, .slice A308 p_1.New.Vals.length c308] := hB321
    have hO322z := hO322.size
    refine SeqR.done (tn (CW.seq (CW.region ?_)))
    have q325 := Box.only (Box.ex (Box.ex hB292 hE310) hE319) hO322 (by omega)
    refine sd rfl (yl_loadN (cs := [.string (bs (p_0.Name)), .slice A278 p_0.Cols.length c278, .slice A279 p_0.Idxs.length c279]) Try.ty65 rfl rfl (q325.cells (n := 3) rfl) rfl (sd rfl (yl_loadN (cs := [.int .i64 (p_1.Kind), .slice A307 p_1.Old.Vals.length c307, .slice A308 p_1.New.Vals.length c308]) Try.ty93 rfl rfl (hB321.cells (n := 3) rfl) rfl ?_)))
    have q331 := OwnL.only good_Str (OwnL.ex good_Str (OwnL.ex good_Str (OwnL.only good_Str (OwnL.ex good_Str h278 hE290) hO293 (by omega)) hE310) hE319) hO322 (by omega)
    have q337 := OwnL.only good_Idx (OwnL.ex good_Idx (OwnL.ex good_Idx (OwnL.only good_Idx (OwnL.ex good_Idx h279 hE290) hO293 (by omega)) hE310) hE319) hO322 (by omega)
    have q340 := OwnL.only good_Str (OwnL.ex good_Str h307 hE319) hO322 (by omega)
    have q343 := OwnL.only good_Str (OwnL.ex good_Str h308 hE319) hO322 (by omega)
    refine sd rfl (yl_call Try.en59 rfl (opvs_cons rfl (opvs_cons rfl opvs_nil)) (Cal.mono (c_i_OpsFor p_0 p_1 (RdS.up (OwnL.rd good_Str q331) good_Str) (RdS.up (OwnL.rd good_Idx q337) good_Idx) (RdS.up (OwnL.rd good_Str q340) good_Str) (RdS.up (OwnL.rd good_Str q343) good_Str) ((szok_Table pre0 (by decide) (dec_f hb25)).1) ((szok_RowAct pre1 (szok_Table pre0 (by decide) (dec_f hb25)).2 (dec_f hb40)).1)) ?_))
    rintro v346 w344 ⟨A345, c345, lo345, hi345, rfl, h345, hrn348, hE347⟩
    have hE347z := Ex.size hE347
    refine sd rfl (yl_move rfl rfl (sd rfl (yl_extract rfl rfl rfl (sd rfl (yl_extract rfl rfl rfl (sd rfl (yl_assign rfl rfl (sd rfl (yl_assign rfl rfl (SeqR.done (tn (CW.seq (CW.seq ?_)))))))))))))
    refine CW.region (sd rfl (yl_move rfl rfl (sd rfl (yl_move rfl rfl ?_))))
    have q356 := RdS.ex good_Op (RdS.only good_Op (RdS.ex good_Op (RdS.ex good_Op (RdS.only good_Op (RdS.ex good_Op (RdS.ex good_Op hq272 hE281) hE290) hO293 (by simp only [Iv]; omega)) hE310) hE319) hO322 (by simp only [Iv]; omega)) hE347
    refine sd rfl (yl_call Try.en38 rfl (opvs_cons rfl (opvs_cons rfl opvs_nil)) (Cal.mono (c_l_eqOpS ((i_OpsFor p_0 p_1).1) ((s_OpsFor p_0 p_1).1) (RdS.up (OwnL.rd good_Op h345) good_Op) (RdS.up q356 good_Op)) ?_))
    rintro v358 w357 ⟨rfl, hE359⟩
    have hE359z := Ex.size hE359
    refine sd rfl (yl_not rfl rfl (sd rfl (yl_move rfl rfl (bcase (l_eqOpS ((i_OpsFor p_0 p_1).1) ((s_OpsFor p_0 p_1).1)) (fun hb360 => ?_) (fun hb360 => ?_)))))
    ·refine sy rfl rfl (not_t hb360) (yl_move rfl rfl (sy rfl rfl (not_t hb360) (yl_move rfl rfl (sy rfl rfl (not_t hb360) (yl_bneq Try.un4 rfl rfl rfl (sd rfl (yl_pick_f rfl rfl (not_t hb360) rfl (SeqR.done (tn (bcase (((i_OpsFor p_0 p_1).2) == ((s_OpsFor p_0 p_1).2)) (fun hb361 => ?_) (fun hb361 => ?_)))))))))))
     ·refine CW.cond_f rfl (not_t hb361) (CW.skip (tn (CW.seq (CW.seq ?_))))
      have q363 := Box.ex (Box.ex q325 hE347) hE359
      have q371 := Box.ex (Box.ex (Box.only (Box.ex (Box.ex (Box.only (Box.ex (Box.ex q274 hE281) hE290) hO293 (by omega)) hE310) hE319) hO322 (by omega)) hE347) hE359
      have q379 := RdS.ex good_Str (RdS.ex good_Str (RdS.only good_Str (RdS.ex good_Str (RdS.ex good_Str (RdS.only good_Str (RdS.ex good_Str (RdS.ex good_Str q275 hE281) hE290) hO293 (by simp only [Iv]; omega)) hE310) hE319) hO322 (by simp only [Iv]; omega)) hE347) hE359
      have q387 := RdS.ex good_Idx (RdS.ex good_Idx (RdS.only good_Idx (RdS.ex good_Idx (RdS.ex good_Idx (RdS.only good_Idx (RdS.ex good_Idx (RdS.ex good_Idx q276 hE281) hE290) hO293 (by simp only [Iv]; omega)) hE310) hE319) hO322 (by simp only [Iv]; omega)) hE347) hE359
      have q393 := OwnL.ex good_Str (OwnL.ex good_Str q331 hE347) hE359
      have q396 := OwnL.ex good_Idx (OwnL.ex good_Idx q337 hE347) hE359
      refine CW.drawsI 5 (vgetI [DetI (.agg #[.string (bs (p_0.Name)), .slice A278 p_0.Cols.length c278, .slice A279 p_0.Idxs.length c279]), DetI (.agg #[.string (bs (p_0.Name)), .slice A1 p_0.Cols.length c1, .slice A2 p_0.Idxs.length c2]), fun lo hi v wq => ∃ A389 c389 lo389 hi389 A390 c390 lo390 hi390, v = .agg #[.string (bs (p_0.Name)), .slice A389 p_0.Cols.length c389, .slice A390 p_0.Idxs.length c390] ∧ OwnL wq lo389 hi389 9 1 (RF e_Str) A389 p_0.Cols.length c389 p_0.Cols ∧ OwnL wq lo390 hi390 152 3 (RF e_Idx) A390 p_0.Idxs.length c390 p_0.Idxs ∧ (lo ≤ lo389 ∧ lo389 ≤ hi389 ∧ hi389 ≤ hi) ∧ (lo ≤ lo390 ∧ lo390 ≤ hi390 ∧ hi390 ≤ hi) ∧ (hi389 ≤ lo390 ∨ hi390 ≤ lo389), DetI (.bool ((l_eqTable p_0 p_0))), DetI (.bool (!(l_eqTable p_0 p_0)))]) Try.follows rfl rfl rfl rfl rfl rfl (vgetI_stable ⟨StableI.det _, StableI.det _, (fun _ _ _ _ _ ⟨A389, c389, lo389, hi389, A390, c390, lo390, hi390, hv, h389, h390, hr0, hr1, hr2⟩ e => ⟨A389, c389, lo389, hi389, A390, c390, lo390, hi390, hv, OwnL.ex good_Str h389 e, OwnL.ex good_Idx h390 e, hr0, hr1, hr2⟩), StableI.det _, StableI.det _, trivial⟩) ⟨?_, ?_, ?_, ?_, ?_, trivial⟩ ?_
      ·exact fun _ _ h => os rfl ((yl_loadN (cs := [.string (bs (p_0.Name)), .slice A278 p_0.Cols.length c278, .slice A279 p_0.Idxs.length c279]) Try.ty65 rfl (h.old 8 _ rfl rfl) ((Box.ex q363 h.ex).cells (n := 3) rfl) rfl kI))
      ·exact fun _ _ h => os rfl ((yl_loadN (cs := [.string (bs (p_0.Name)), .slice A1 p_0.Cols.length c1, .slice A2 p_0.Idxs.length c2]) Try.ty55 rfl (h.old 2 _ rfl rfl) ((Box.ex q371 h.ex).cells (n := 3) rfl) rfl kI))
      ·intro L410 w411 hi412
       have hE413 := hi412.ex
       refine OpR.op' rfl (yl_call Try.en35 rfl (opvs_cons (hi412.dt 1 55 rfl rfl rfl) opvs_nil) (Cal.mono (c_l_toTable p_0 (RdS.up (RdS.ex good_Str q379 hE413) good_Str) (RdS.up (RdS.ex good_Idx q387 hE413) good_Idx) ((szok_Table pre0 (by decide) (dec_f hb25)).1)) ?_))
       rintro v420 w417 ⟨A418, c418, lo418, hi418, A419, c419, lo419, hi419, rfl, h418, h419, hrn422, hrn423, hrn424, hE421⟩
       exact ⟨⟨A418, c418, lo418, hi418, A419, c419, lo419, hi419, rfl, h418, h419, hrn422, hrn423, hrn424⟩, hE421⟩
      ·intro L425 w426 hi427
       have hE428 := hi427.ex
       obtain ⟨lo431, hh432, _, hx430, hr433, hr434, hr435, A389_436, c389_437, lo389_438, hi389_439, A390_440, c390_441, lo390_442, hi390_443, rfl, h444, h445, hrn446, hrn447, hrn448⟩ := hi427.dep 2 56 rfl rfl
       refine OpR.op' rfl (yl_call Try.en39 rfl (opvs_cons (hi427.dt 0 54 rfl rfl rfl) (opvs_cons hx430 opvs_nil)) (Cal.mono (c_l_eqTable p_0 p_0 (RdS.up (OwnL.rd good_Str (OwnL.ex good_Str q393 hE428)) good_Str) (RdS.up (OwnL.rd good_Idx (OwnL.ex good_Idx q396 hE428)) good_Idx) (RdS.up (OwnL.rd good_Str h444) good_Str) (RdS.up (OwnL.rd good_Idx h445) good_Idx)) ?_))
       rintro v456 w455 ⟨rfl, hE457⟩
       exact ⟨rfl, hE457⟩
      ·exact fun _ _ h => os rfl ((yl_not rfl (h.dt 3 57 rfl rfl rfl) kI))
      ·intro fl466 fh467 L463 w464 hp465
       have hE468 := hp465.ex
       have hE468z := Ex.size hE468
       have hr478 := hp465.rng 2 rfl
       obtain ⟨_, hx477, A389_479, c389_480, lo389_481, hi389_482, A390_483, c390_484, lo390_485, hi390_486, rfl, h487, h488, hrn489, hrn490, hrn491⟩ := hp465.new 2 56 rfl rfl
       refine SeqR.done (tn (CW.sub (Sub.cons (d := 2) (hp465.old 2 _ rfl rfl) (Sub.cons (d := 3) (hp465.old 3 _ rfl rfl) (Sub.cons (d := 6) (hp465.old 6 _ rfl rfl) (Sub.cons (d := 7) (hp465.old 7 _ rfl rfl) (Sub.cons (d := 8) (hp465.old 8 _ rfl rfl) (Sub.cons (d := 9) (hp465.old 9 _ rfl rfl) (Sub.cons (d := 10) (hp465.old 10 _ rfl rfl) (Sub.cons (d := 11) (hp465.old 11 _ rfl rfl) (Sub.cons (d := 58) (hp465.nt 4 58 rfl rfl rfl) (Sub.nil _)))))))))) (bcase (l_eqTable p_0 p_0) (fun hb493 => ?_) (fun hb493 => ?_))))
       ·refine CW.cond_f rfl (not_t hb493) (CW.skip (tn (CW.seq (CW.seq ?_))))
        have q496 := Box.ex (Box.ex (Box.ex hB321 hE347) hE359) hE468
        have q502 := Box.ex (Box.ex (Box.ex (Box.only (Box.ex (Box.ex q297 hE310) hE319) hO322 (by omega)) hE347) hE359) hE468
        have q508 := RdS.ex good_Str (RdS.ex good_Str (RdS.ex good_Str (RdS.only good_Str (RdS.ex good_Str (RdS.ex good_Str q301 hE310) hE319) hO322 (by simp only [Iv]; omega)) hE347) hE359) hE468
        have q514 := RdS.ex good_Str (RdS.ex good_Str (RdS.ex good_Str (RdS.only good_Str (RdS.ex good_Str (RdS.ex good_Str q305 hE310) hE319) hO322 (by simp only [Iv]; omega)) hE347) hE359) hE468
        have q521 := OwnL.ex good_Str (OwnL.ex good_Str (OwnL.ex good_Str q340 hE347) hE359) hE468
        have q525 := OwnL.ex good_Str (OwnL.ex good_Str (OwnL.ex good_Str q343 hE347) hE359) hE468
        refine CW.drawsI 5 (vgetI [DetI (.agg #[.int .i64 (p_1.Kind), .slice A307 p_1.Old.Vals.length c307, .slice A308 p_1.New.Vals.length c308]), DetI (.agg #[.int .i64 (p_1.Kind), .slice A3 p_1.Old.Vals.length c3, .slice A4 p_1.New.Vals.length c4]), fun lo hi v wq => ∃ A516 c516 lo516 hi516 A517 c517 lo517 hi517, v = .agg #[.int .i64 (p_1.Kind), .slice A516 p_1.Old.Vals.length c516, .slice A517 p_1.New.Vals.length c517] ∧ OwnL wq lo516 hi516 9 1 (RF e_Str) A516 p_1.Old.Vals.length c516 p_1.Old.Vals ∧ OwnL wq lo517 hi517 9 1 (RF e_Str) A517 p_1.New.Vals.length c517 p_1.New.Vals ∧ (lo ≤ lo516 ∧ lo516 ≤ hi516 ∧ hi516 ≤ hi) ∧ (lo ≤ lo517 ∧ lo517 ≤ hi517 ∧ hi517 ≤ hi) ∧ (hi516 ≤ lo517 ∨ hi517 ≤ lo516), DetI (.bool ((l_eqRowAct p_1 p_1))), DetI (.bool (!(l_eqRowAct p_1 p_1)))]) Try.follows rfl rfl rfl rfl rfl rfl (vgetI_stable ⟨StableI.det _, StableI.det _, (fun _ _ _ _ _ ⟨A516, c516, lo516, hi516, A517, c517, lo517, hi517, hv, h516, h517, hr0, hr1, hr2⟩ e => ⟨A516, c516, lo516, hi516, A517, c517, lo517, hi517, hv, OwnL.ex good_Str h516 e, OwnL.ex good_Str h517 e, hr0, hr1, hr2⟩), StableI.det _, StableI.det _, trivial⟩) ⟨?_, ?_, ?_, ?_, ?_, trivial⟩ ?_
        ·exact fun _ _ h => os rfl ((yl_loadN (cs := [.int .i64 (p_1.Kind), .slice A307 p_1.Old.Vals.length c307, .slice A308 p_1.New.Vals.length c308]) Try.ty93 rfl (h.old 9 _ rfl rfl) ((Box.ex q496 h.ex).cells (n := 3) rfl) rfl kI))
        ·exact fun _ _ h => os rfl ((yl_loadN (cs := [.int .i64 (p_1.Kind), .slice A3 p_1.Old.Vals.length c3, .slice A4 p_1.New.Vals.length c4]) Try.ty89 rfl (h.old 3 _ rfl rfl) ((Box.ex q502 h.ex).cells (n := 3) rfl) rfl kI))
        ·intro L539 w540 hi541
         have hE542 := hi541.ex
         refine OpR.op' rfl (yl_call Try.en58 rfl (opvs_cons (hi541.dt 1 60 rfl rfl rfl) opvs_nil) (Cal.mono (c_l_toRowAct p_1 (RdS.up (RdS.ex good_Str q508 hE542) good_Str) (RdS.up (RdS.ex good_Str q514 hE542) good_Str) ((szok_RowAct pre1 (szok_Table pre0 (by decide) (dec_f hb25)).2 (dec_f hb40)).1)) ?_))
         rintro v549 w546 ⟨A547, c547, lo547, hi547, A548, c548, lo548, hi548, rfl, h547, h548, hrn551, hrn552, hrn553, hE550⟩
         exact ⟨⟨A547, c547, lo547, hi547, A548, c548, lo548, hi548, rfl, h547, h548, hrn551, hrn552, hrn553⟩, hE550⟩
        ·intro L554 w555 hi556
         have hE557 := hi556.ex
         obtain ⟨lo560, hh561, _, hx559, hr562, hr563, hr564, A516_565, c516_566, lo516_567, hi516_568, A517_569, c517_570, lo517_571, hi517_572, rfl, h573, h574, hrn575, hrn576, hrn577⟩ := hi556.dep 2 61 rfl rfl
         refine OpR.op' rfl (yl_call Try.en60 rfl (opvs_cons (hi556.dt 0 59 rfl rfl rfl) (opvs_cons hx559 opvs_nil)) (Cal.mono (c_l_eqRowAct p_1 p_1 (RdS.up (OwnL.rd good_Str (OwnL.ex good_Str q521 hE557)) good_Str) (RdS.up (OwnL.rd good_Str (OwnL.ex good_Str q525 hE557)) good_Str) (RdS.up (OwnL.rd good_Str h573) good_Str) (RdS.up (OwnL.rd good_Str h574) good_Str)) ?_))
         rintro v585 w584 ⟨rfl, hE586⟩
         exact ⟨rfl, hE586⟩
        ·exact fun _ _ h => os rfl ((yl_not rfl (h.dt 3 62 rfl rfl rfl) kI))
        ·intro fl595 fh596 L592 w593 hp594
         have hE597 := hp594.ex
         have hE597z := Ex.size hE597
         have hr607 := hp594.rng 2 rfl
         obtain ⟨_, hx606, A516_608, c516_609, lo516_610, hi516_611, A517_612, c517_613, lo517_614, hi517_615, rfl, h616, h617, hrn618, hrn619, hrn620⟩ := hp594.new 2 61 rfl rfl
         refine SeqR.done (tn (CW.sub (Sub.cons (d := 2) (hp594.old 2 _ rfl rfl) (Sub.cons (d := 3) (hp594.old 3 _ rfl rfl) (Sub.cons (d := 6) (hp594.old 6 _ rfl rfl) (Sub.cons (d := 7) (hp594.old 7 _ rfl rfl) (Sub.cons (d := 8) (hp594.old 8 _ rfl rfl) (Sub.cons (d := 9) (hp594.old 9 _ rfl rfl) (Sub.cons (d := 10) (hp594.old 10 _ rfl rfl) (Sub.cons (d := 11) (hp594.old 11 _ rfl rfl) (Sub.cons (d := 63) (hp594.nt 4 63 rfl rfl rfl) (Sub.nil _)))))))))) (bcase (l_eqRowAct p_1 p_1) (fun hb622 => ?_) (fun hb622 => ?_))))
         ·refine CW.cond_f rfl (not_t hb622) (CW.skip (tn (CW.seq (CW.region (sd rfl (yl_assign rfl rfl (SeqR.done (tn (CW.seq ?_)))))))))
          refine CW.region (sd rfl (yl_loadN (cs := [.string (bs (p_0.Name)), .slice A278 p_0.Cols.length c278, .slice A279 p_0.Idxs.length c279]) Try.ty65 rfl rfl ((Box.ex (Box.ex q363 hE468) hE597).cells (n := 3) rfl) rfl (sd rfl (yl_move rfl rfl (sd rfl (yl_call Try.en41 rfl (opvs_cons rfl (opvs_cons rfl opvs_nil)) (Cal.mono (c_l_markTable p_0 1 (OwnL.ex good_Str (OwnL.ex good_Str q393 hE468) hE597) (OwnL.ex good_Idx (OwnL.ex good_Idx q396 hE468) hE597) (by omega) (by omega) (by omega) (by first | omega | assumption | (simp only [IntKind.wrap_i64] at *; omega))) ?_)))))))
          rintro v630 w629 ⟨rfl, h632, h633, hm631⟩
          have hm631z := Mut.size hm631
          have hrf634 := rf_markTable p_0 1 (by first | omega | assumption | (simp only [IntKind.wrap_i64] at *; omega))
          refine sd rfl (yl_assign rfl rfl (SeqR.done (tn (CW.seq (CW.region (sd rfl (yl_loadN (cs := [.int .i64 (p_1.Kind), .slice A307 p_1.Old.Vals.length c307, .slice A308 p_1.New.Vals.length c308]) Try.ty93 rfl rfl ((Box.mut (Box.ex q496 hE597) hm631 (fun k hk => by simp only [InR, or_false] at hk; omega)).cells (n := 3) rfl) rfl (sd rfl (yl_move rfl rfl (sd rfl (yl_call Try.en61 rfl (opvs_cons rfl (opvs_cons rfl opvs_nil)) (Cal.mono (c_l_markRowAct p_1 ((l_markTable p_0 1).1) (OwnL.mut good_Str (OwnL.ex good_Str q521 hE597) hm631 (fun k hk => by simp only [InR, or_false] at hk; omega)) (OwnL.mut good_Str (OwnL.ex good_Str q525 hE597) hm631 (fun k hk => by simp only [InR, or_false] at hk; omega)) (by omega) (by omega) (by omega) (by first | omega | assumption | (simp only [IntKind.wrap_i64] at *; omega))) ?_))))))))))))
          rintro v642 w641 ⟨rfl, h644, h645, hm643⟩
          have hm643z := Mut.size hm643
          have hrf646 := rf_markRowAct p_1 ((l_markTable p_0 1).1) (by first | omega | assumption | (simp only [IntKind.wrap_i64] at *; omega))
          refine sd rfl (yl_assign rfl rfl (SeqR.done (tn (CW.seq (CW.seq (CW.region (sd rfl (yl_move rfl rfl (sd rfl (yl_lss rfl rfl rfl (sd rfl (yl_move rfl rfl ?_))))))))))))
          refine bcase (decide (((l_markRowAct p_1 ((l_markTable p_0 1).1)).1) < 0)) (fun hb647 => ?_) (fun hb647 => ?_)
          ·have hb647p := dec_t hb647
           refine sz rfl rfl hb647 (sz rfl rfl hb647 (sz rfl rfl hb647 (sz rfl rfl hb647 (sd rfl (yl_pick_t rfl rfl hb647 rfl (sd rfl (yl_move rfl rfl (sz rfl rfl rfl (sz rfl rfl rfl (sz rfl rfl rfl ?_))))))))))
           refine sd rfl (yl_pick_t rfl rfl rfl rfl (SeqR.done (tn (CW.cond_t rfl rfl (CW.seq (CW.region (sd rfl (yl_assign rfl rfl (SeqR.done (tn ?_))))))))))
           refine CW.ret (tr (rr rfl (.cons rfl .nil) ?_))
           have hM648 : (l_FnExactOpsFor p_0 p_1) = (false) := by simp only [l_FnExactOpsFor, hb25, hb40, hb360, hb361, hb493, hb622, hb647, cond_true, cond_false, loopE_done, loopE_ret]
           rw [hM648]
           have q665 := Ex.mut (Ex.mut (Ex.trans (Ex.trans (Ex.trans (Ex.trans (Below.only (Ex.trans (Ex.trans (Below.only (Ex.trans (Ex.trans (Ex.trans (Ex.trans (Ex.trans (Ex.trans (Ex.trans (Ex.refl w) hE10) hE16) hE24) hE39) hE224) hE281) hE290) hO293 (by omega)) hE310) hE319) hO322 (by omega)) hE347) hE359) hE468) hE597) hm631 (fun k hk => by simp only [InR, or_false] at hk; omega)) hm643 (fun k hk => by simp only [InR, or_false] at hk; omega)
           exact ⟨rfl, q665⟩
          ·have hb647p := dec_f hb647
           refine sy rfl rfl hb647 (yl_move rfl rfl (sy rfl rfl hb647 (yl_move rfl rfl ?_)))
           have q671 := OwnL.mut good_Op (OwnL.mut good_Op (OwnL.ex good_Op (OwnL.ex good_Op (OwnL.ex good_Op h345 hE359) hE468) hE597) hm631 (fun k hk => by simp only [InR, or_false] at hk; omega)) hm643 (fun k hk => by simp only [InR, or_false] at hk; omega)
           have q676 := RdS.mut good_Op (RdS.mut good_Op (RdS.ex good_Op (RdS.ex good_Op (RdS.ex good_Op q356 hE359) hE468) hE597) hm631 (fun k hk => by simp only [InR, or_false, Iv, Ge] at hk ⊢; omega)) hm643 (fun k hk => by simp only [InR, or_false, Iv, Ge] at hk ⊢; omega)
           refine sy rfl rfl hb647 (yl_call Try.en38 rfl (opvs_cons rfl (opvs_cons rfl opvs_nil)) (Cal.mono (c_l_eqOpS ((i_OpsFor p_0 p_1).1) ((s_OpsFor p_0 p_1).1) (RdS.up (OwnL.rd good_Op q671) good_Op) (RdS.up q676 good_Op)) ?_))
           rintro v678 w677 ⟨rfl, hE679⟩
           have hE679z := Ex.size hE679
           refine sy rfl rfl hb647 (yl_not rfl rfl (sd rfl (yl_pick_f rfl rfl hb647 rfl (sd rfl (yl_move rfl rfl (sy rfl rfl (not_t hb360) (yl_move rfl rfl (sy rfl rfl (not_t hb360) (yl_move rfl rfl (sy rfl rfl (not_t hb360) (yl_bneq Try.un4 rfl rfl rfl (sd rfl (yl_pick_f rfl rfl (not_t hb360) rfl (SeqR.done (tn ?_)))))))))))))))
           refine CW.cond_f rfl (not_t hb361) (CW.skip (tn (CW.seq (CW.region (sd rfl (yl_assign rfl rfl (SeqR.done (tn (CW.seq ?_)))))))))
           refine CW.region (sd rfl (yl_move rfl rfl (sd rfl (yl_move rfl rfl (sd rfl (yl_call Try.en43 rfl (opvs_cons rfl (opvs_cons rfl opvs_nil)) (Cal.mono (c_l_markOpS ((i_OpsFor p_0 p_1).1) 1 (OwnL.ex good_Op q671 hE679) (by omega) (by first | omega | assumption | (simp only [IntKind.wrap_i64] at *; omega))) ?_)))))))
           rintro v682 w681 ⟨rfl, h684, hm683⟩
           have hm683z := Mut.size hm683
           have hrf685 := rf_markOpS ((i_OpsFor p_0 p_1).1) 1 (by first | omega | assumption | (simp only [IntKind.wrap_i64] at *; omega))
           refine sd rfl (yl_assign rfl rfl (SeqR.done (tn (CW.seq (CW.region (sd rfl (yl_assign rfl rfl (SeqR.done (tn (CW.seq ?_))))))))))
           refine CW.region (sd rfl (yl_move rfl rfl (sd rfl (yl_move rfl rfl ?_))))
           have hle686 := OwnL.len h684
           refine sd rfl (yl_call Try.en44 rfl (opvs_cons rfl (opvs_cons rfl opvs_nil)) (Cal.mono (Cal.args (by rw [← hle686] <;> rfl) (c_l_heldOpS ((l_markOpS ((i_OpsFor p_0 p_1).1) 1).2) 1 (RdS.fix (RdS.up (OwnL.rd good_Op h684) good_Op)) (by first | omega | assumption | (simp only [IntKind.wrap_i64] at *; omega)))) ?_))
           rintro v689 w688 ⟨rfl, hE690⟩
           have hE690z := Ex.size hE690
           have hrf691 := rf_heldOpS ((l_markOpS ((i_OpsFor p_0 p_1).1) 1).2) 1 (by first | omega | assumption | (simp only [IntKind.wrap_i64] at *; omega))
           refine sd rfl (yl_assign rfl rfl (SeqR.done (tn (CW.seq (CW.seq (CW.region (sd rfl (yl_move rfl rfl (sd rfl (yl_lss rfl rfl rfl (SeqR.done ?_)))))))))))
           refine tn (bcase (decide ((l_heldOpS ((l_markOpS ((i_OpsFor p_0 p_1).1) 1).2) 1) < 0)) (fun hb692 => ?_) (fun hb692 => ?_))
           ·have hb692p := dec_t hb692
            refine CW.cond_t rfl hb692 (CW.seq (CW.region (sd rfl (yl_assign rfl rfl (SeqR.done (tn (CW.ret (tr (rr rfl (.cons rfl .nil) ?_)))))))))
            have hM693 : (l_FnExactOpsFor p_0 p_1) = (false) := by simp only [l_FnExactOpsFor, hb25, hb40, hb360, hb361, hb493, hb622, hb647, hb692, cond_true, cond_false, loopE_done, loopE_ret]
            rw [hM693]
            have q710 := Ex.mut (Ex.mut (Ex.trans (Ex.trans (Ex.trans (Ex.trans (Below.only (Ex.trans (Ex.trans (Below.only (Ex.trans (Ex.trans (Ex.trans (Ex.trans (Ex.trans (Ex.trans (Ex.trans (Ex.refl w) hE10) hE16) hE24) hE39) hE224) hE281) hE290) hO293 (by omega)) hE310) hE319) hO322 (by omega)) hE347) hE359) hE468) hE597) hm631 (fun k hk => by simp only [InR, or_false] at hk; omega)) hm643 (fun k hk => by simp only [InR, or_false] at hk; omega)
            exact ⟨rfl, (Ex.trans (Ex.mut (Ex.trans q710 hE679) hm683 (fun k hk => by simp only [InR, or_false] at hk; omega)) hE690)⟩
           ·have hb692p := dec_f hb692
            refine CW.cond_f rfl hb692 (CW.skip (tn (CW.seq (CW.seq (CW.region (sd rfl (yl_move rfl rfl (sd rfl (yl_move rfl rfl (sd rfl (yl_neq rfl rfl rfl ?_)))))))))))
            refine SeqR.done (tn (bcase (decide ((l_heldOpS ((l_markOpS ((i_OpsFor p_0 p_1).1) 1).2) 1) = ((l_markOpS ((i_OpsFor p_0 p_1).1) 1).1))) (fun hb714 => ?_) (fun hb714 => ?_)))
            ·have hb714p := dec_t hb714
             refine CW.cond_f rfl (not_t hb714) (CW.skip (tn (CW.seq (CW.drawsI 10 (vgetI [DetI (.agg #[.string (bs (p_0.Name)), .slice A1 p_0.Cols.length c1, .slice A2 p_0.Idxs.length c2]), fun lo hi v wq => ∃ A737 c737 lo737 hi737 A738 c738 lo738 hi738, v = .agg #[.string (bs (p_0.Name)), .slice A737 p_0.Cols.length c737, .slice A738 p_0.Idxs.length c738] ∧ OwnL wq lo737 hi737 9 1 (RF e_Str) A737 p_0.Cols.length c737 p_0.Cols ∧ OwnL wq lo738 hi738 152 3 (RF e_Idx) A738 p_0.Idxs.length c738 p_0.Idxs ∧ (lo ≤ lo737 ∧ lo737 ≤ hi737 ∧ hi737 ≤ hi) ∧ (lo ≤ lo738 ∧ lo738 ≤ hi738 ∧ hi738 ≤ hi) ∧ (hi737 ≤ lo738 ∨ hi738 ≤ lo737), DetI (.agg #[.int .i64 (p_1.Kind), .slice A3 p_1.Old.Vals.length c3, .slice A4 p_1.New.Vals.length c4]), fun lo hi v wq => ∃ A758 c758 lo758 hi758 A759 c759 lo759 hi759, v = .agg #[.int .i64 (p_1.Kind), .slice A758 p_1.Old.Vals.length c758, .slice A759 p_1.New.Vals.length c759] ∧ OwnL wq lo758 hi758 9 1 (RF e_Str) A758 p_1.Old.Vals.length c758 p_1.Old.Vals ∧ OwnL wq lo759 hi759 9 1 (RF e_Str) A759 p_1.New.Vals.length c759 p_1.New.Vals ∧ (lo ≤ lo758 ∧ lo758 ≤ hi758 ∧ hi758 ≤ hi) ∧ (lo ≤ lo759 ∧ lo759 ≤ hi759 ∧ hi759 ≤ hi) ∧ (hi758 ≤ lo759 ∨ hi759 ≤ lo758), fun lo hi v wq => ∃ A761 c761 lo761 hi761, v = .tuple #[.slice A761 (((i_OpsFor p_0 p_1).1).length) c761, .bool ((i_OpsFor p_0 p_1).2)] ∧ OwnL wq lo761 hi761 163 4 (RF e_Op) A761 (((i_OpsFor p_0 p_1).1).length) c761 ((i_OpsFor p_0 p_1).1) ∧ (lo ≤ lo761 ∧ lo761 ≤ hi761 ∧ hi761 ≤ hi), fun lo hi v wq => ∃ A761 c761, v = .tuple #[.slice A761 (((i_OpsFor p_0 p_1).1).length) c761, .bool ((i_OpsFor p_0 p_1).2)] ∧ RdS wq (Ge w688.heap.size) (RF e_Op) 4 A761 ((i_OpsFor p_0 p_1).1).length c761 ((i_OpsFor p_0 p_1).1), fun lo hi v wq => ∃ A761 c761, v = .slice A761 (((i_OpsFor p_0 p_1).1).length) c761 ∧ RdS wq (Ge w688.heap.size) (RF e_Op) 4 A761 ((i_OpsFor p_0 p_1).1).length c761 ((i_OpsFor p_0 p_1).1), DetI (.bool ((i_OpsFor p_0 p_1).2)), fun lo hi v wq => ∃ A761 c761, v = .slice A761 (((i_OpsFor p_0 p_1).1).length) c761 ∧ RdS wq (Ge w688.heap.size) (RF e_Op) 4 A761 ((i_OpsFor p_0 p_1).1).length c761 ((i_OpsFor p_0 p_1).1), DetI (.bool ((i_OpsFor p_0 p_1).2))]) Try.follows rfl rfl rfl rfl rfl rfl (vgetI_stable ⟨StableI.det _, (fun _ _ _ _ _ ⟨A737, c737, lo737, hi737, A738, c738, lo738, hi738, hv, h737, h738, hr0, hr1, hr2⟩ e => ⟨A737, c737, lo737, hi737, A738, c738, lo738, hi738, hv, OwnL.ex good_Str h737 e, OwnL.ex good_Idx h738 e, hr0, hr1, hr2⟩), StableI.det _, (fun _ _ _ _ _ ⟨A758, c758, lo758, hi758, A759, c759, lo759, hi759, hv, h758, h759, hr0, hr1, hr2⟩ e => ⟨A758, c758, lo758, hi758, A759, c759, lo759, hi759, hv, OwnL.ex good_Str h758 e, OwnL.ex good_Str h759 e, hr0, hr1, hr2⟩), (fun _ _ _ _ _ ⟨A761, c761, lo761, hi761, hv, h761, hr0⟩ e => ⟨A761, c761, lo761, hi761, hv, OwnL.ex good_Op h761 e, hr0⟩), (fun _ _ _ _ _ ⟨A761, c761, hv, h762⟩ e => ⟨A761, c761, hv, RdS.ex good_Op h762 e⟩), (fun _ _ _ _ _ ⟨A761, c761, hv, h763⟩ e => ⟨A761, c761, hv, RdS.ex good_Op h763 e⟩), StableI.det _, (fun _ _ _ _ _ ⟨A761, c761, hv, h764⟩ e => ⟨A761, c761, hv, RdS.ex good_Op h764 e⟩), StableI.det _, trivial⟩) ⟨?_, ?_, ?_, ?_, ?_, ?_, ?_, ?_, ?_, ?_, trivial⟩ ?_))))
             ·intro L765 w766 hi767
              have hE768 := hi767.ex
              have hE768z := Ex.size hE768
              exact os rfl ((yl_loadN (cs := [.string (bs (p_0.Name)), .slice A1 p_0.Cols.length c1, .slice A2 p_0.Idxs.length c2]) Try.ty55 rfl (hi767.old 2 _ rfl rfl) ((Box.ex (Box.ex (Box.mut (Box.ex (Box.mut (Box.mut (Box.ex (Box.ex q371 hE468) hE597) hm631 (fun k hk => by simp only [InR, or_false] at hk; omega)) hm643 (fun k hk => by simp only [InR, or_false] at hk; omega)) hE679) hm683 (fun k hk => by simp only [InR, or_false] at hk; omega)) hE690) hE768).cells (n := 3) rfl) rfl kI))
             ·intro L771 w772 hi773
              have hE774 := hi773.ex
              have hE774z := Ex.size hE774
              refine OpR.op' rfl (yl_call Try.en35 rfl (opvs_cons (hi773.dt 0 95 rfl rfl rfl) opvs_nil) (Cal.mono (c_l_toTable p_0 (RdS.up (RdS.ex good_Str (RdS.ex good_Str (RdS.mut good_Str (RdS.ex good_Str (RdS.mut good_Str (RdS.mut good_Str (RdS.ex good_Str (RdS.ex good_Str q379 hE468) hE597) hm631 (fun k hk => by simp only [InR, or_false, Iv, Ge] at hk ⊢; omega)) hm643 (fun k hk => by simp only [InR, or_false, Iv, Ge] at hk ⊢; omega)) hE679) hm683 (fun k hk => by simp only [InR, or_false, Iv, Ge] at hk ⊢; omega)) hE690) hE774) good_Str) (RdS.up (RdS.ex good_Idx (RdS.ex good_Idx (RdS.mut good_Idx (RdS.ex good_Idx (RdS.mut good_Idx (RdS.mut good_Idx (RdS.ex good_Idx (RdS.ex good_Idx q387 hE468) hE597) hm631 (fun k hk => by simp only [InR, or_false, Iv, Ge] at hk ⊢; omega)) hm643 (fun k hk => by simp only [InR, or_false, Iv, Ge] at hk ⊢; omega)) hE679) hm683 (fun k hk => by simp only [InR, or_false, Iv, Ge] at hk ⊢; omega)) hE690) hE774) good_Idx) ((szok_Table pre0 (by decide) (dec_f hb25)).1)) ?_))
              rintro v781 w778 ⟨A779, c779, lo779, hi779, A780, c780, lo780, hi780, rfl, h779, h780, hrn783, hrn784, hrn785, hE782⟩
              exact ⟨⟨A779, c779, lo779, hi779, A780, c780, lo780, hi780, rfl, h779, h780, hrn783, hrn784, hrn785⟩, hE782⟩
             ·intro L786 w787 hi788
              have hE789 := hi788.ex
              have hE789z := Ex.size hE789
              exact os rfl ((yl_loadN (cs := [.int .i64 (p_1.Kind), .slice A3 p_1.Old.Vals.length c3, .slice A4 p_1.New.Vals.length c4]) Try.ty89 rfl (hi788.old 3 _ rfl rfl) ((Box.ex (Box.ex (Box.mut (Box.ex (Box.mut (Box.mut (Box.ex q502 hE597) hm631 (fun k hk => by simp only [InR, or_false] at hk; omega)) hm643 (fun k hk => by simp only [InR, or_false] at hk; omega)) hE679) hm683 (fun k hk => by simp only [InR, or_false] at hk; omega)) hE690) hE789).cells (n := 3) rfl) rfl kI))
             ·intro L792 w793 hi794
              have hE795 := hi794.ex
              have hE795z := Ex.size hE795
              refine OpR.op' rfl (yl_call Try.en58 rfl (opvs_cons (hi794.dt 2 97 rfl rfl rfl) opvs_nil) (Cal.mono (c_l_toRowAct p_1 (RdS.up (RdS.ex good_Str (RdS.ex good_Str (RdS.mut good_Str (RdS.ex good_Str (RdS.mut good_Str (RdS.mut good_Str (RdS.ex good_Str q508 hE597) hm631 (fun k hk => by simp only [InR, or_false, Iv, Ge] at hk ⊢; omega)) hm643 (fun k hk => by simp only [InR, or_false, Iv, Ge] at hk ⊢; omega)) hE679) hm683 (fun k hk => by simp only [InR, or_false, Iv, Ge] at hk ⊢; omega)) hE690) hE795) good_Str) (RdS.up (RdS.ex good_Str (RdS.ex good_Str (RdS.mut good_Str (RdS.ex good_Str (RdS.mut good_Str (RdS.mut good_Str (RdS.ex good_Str q514 hE597) hm631 (fun k hk => by simp only [InR, or_false, Iv, Ge] at hk ⊢; omega)) hm643 (fun k hk => by simp only [InR, or_false, Iv, Ge] at hk ⊢; omega)) hE679) hm683 (fun k hk => by simp only [InR, or_false, Iv, Ge] at hk ⊢; omega)) hE690) hE795) good_Str) ((szok_RowAct pre1 (szok_Table pre0 (by decide) (dec_f hb25)).2 (dec_f hb40)).1)) ?_))
              rintro v802 w799 ⟨A800, c800, lo800, hi800, A801, c801, lo801, hi801, rfl, h800, h801, hrn804, hrn805, hrn806, hE803⟩
              exact ⟨⟨A800, c800, lo800, hi800, A801, c801, lo801, hi801, rfl, h800, h801, hrn804, hrn805, hrn806⟩, hE803⟩
             ·intro L807 w808 hi809
              obtain ⟨lo812, hh813, _, hx811, hr814, hr815, hr816, A737_817, c737_818, lo737_819, hi737_820, A738_821, c738_822, lo738_823, hi738_824, rfl, h825, h826, hrn827, hrn828, hrn829⟩ := hi809.dep 1 96 rfl rfl
              obtain ⟨lo831, hh832, _, hx830, hr833, hr834, hr835, A758_836, c758_837, lo758_838, hi758_839, A759_840, c759_841, lo759_842, hi759_843, rfl, h844, h845, hrn846, hrn847, hrn848⟩ := hi809.dep 3 98 rfl rfl
              refine OpR.op' rfl (yl_call Try.en59 rfl (opvs_cons hx811 (opvs_cons hx830 opvs_nil)) (Cal.mono (c_i_OpsFor p_0 p_1 (RdS.up (OwnL.rd good_Str h825) good_Str) (RdS.up (OwnL.rd good_Idx h826) good_Idx) (RdS.up (OwnL.rd good_Str h844) good_Str) (RdS.up (OwnL.rd good_Str h845) good_Str) ((szok_Table pre0 (by decide) (dec_f hb25)).1) ((szok_RowAct pre1 (szok_Table pre0 (by decide) (dec_f hb25)).2 (dec_f hb40)).1)) ?_))
              rintro v855 w853 ⟨A854, c854, lo854, hi854, rfl, h854, hrn857, hE856⟩
              exact ⟨⟨A854, c854, lo854, hi854, rfl, h854, hrn857⟩, hE856⟩
             ·intro L858 w859 hi860
              have hE861 := hi860.ex
              have hE861z := Ex.size hE861
              obtain ⟨lo863, hh864, _, hx862, hr865, hr866, hr867, A761_868, c761_869, lo761_870, hi761_871, rfl, h872, hrn873⟩ := hi860.dep 4 99 rfl rfl
              exact os rfl ((yl_move rfl hx862 ⟨fun _ _ => ⟨A761_868, c761_869, rfl, (RdS.ivG good_Op (OwnL.rd good_Op h872) (by omega))⟩, rfl⟩))
             ·intro L874 w875 hi876
              obtain ⟨lo879, hh880, _, hx878, hr881, hr882, hr883, A761_884, c761_885, rfl, h886⟩ := hi876.dep 5 94 rfl rfl
              exact os rfl ((yl_extract rfl hx878 rfl ⟨fun _ _ => ⟨A761_884, c761_885, rfl, h886⟩, rfl⟩))
             ·intro L887 w888 hi889
              obtain ⟨lo892, hh893, _, hx891, hr894, hr895, hr896, A761_897, c761_898, rfl, h899⟩ := hi889.dep 5 94 rfl rfl
              exact os rfl ((yl_extract rfl hx891 rfl kI))
             ·intro L900 w901 hi902
              obtain ⟨lo905, hh906, _, hx904, hr907, hr908, hr909, A761_910, c761_911, rfl, h912⟩ := hi902.dep 6 100 rfl rfl
              exact os rfl ((yl_assign rfl hx904 ⟨fun _ _ => ⟨A761_910, c761_911, rfl, h912⟩, rfl⟩))
             ·exact fun _ _ h => os rfl ((yl_assign rfl (h.dt 7 101 rfl rfl rfl) kI))
             ·intro fl921 fh922 L918 w919 hp920
              have hE923 := hp920.ex
              have hE923z := Ex.size hE923
              have hr929 := hp920.rng 1 rfl
              obtain ⟨_, hx928, A737_930, c737_931, lo737_932, hi737_933, A738_934, c738_935, lo738_936, hi738_937, rfl, h938, h939, hrn940, hrn941, hrn942⟩ := hp920.new 1 96 rfl rfl
              have hr944 := hp920.rng 3 rfl
              have hsp945 := hp920.sep 1 3 rfl rfl rfl
              obtain ⟨_, hx943, A758_946, c758_947, lo758_948, hi758_949, A759_950, c759_951, lo759_952, hi759_953, rfl, h954, h955, hrn956, hrn957, hrn958⟩ := hp920.new 3 98 rfl rfl
              have hr960 := hp920.rng 4 rfl
              have hsp961 := hp920.sep 1 4 rfl rfl rfl
              have hsp962 := hp920.sep 3 4 rfl rfl rfl
              obtain ⟨_, hx959, A761_963, c761_964, lo761_965, hi761_966, rfl, h967, hrn968⟩ := hp920.new 4 99 rfl rfl
              obtain ⟨_, hx969, A761_970, c761_971, rfl, h972⟩ := hp920.new 8 15 rfl rfl
              have hq973 := RdS.wideG good_Op h972 (Nat.le_refl _)
              refine SeqR.done (tn (CW.sub (Sub.cons (d := 6) (hp920.old 6 _ rfl rfl) (Sub.cons (d := 7) (hp920.old 7 _ rfl rfl) (Sub.cons (d := 10) (hp920.old 10 _ rfl rfl) (Sub.cons (d := 13) (hp920.old 13 _ rfl rfl) (Sub.cons (d := 15) hx969 (Sub.cons (d := 16) (hp920.nt 9 16 rfl rfl rfl) (Sub.nil _))))))) (CW.seq (CW.seq (CW.region (sd rfl (yl_move rfl rfl (sd rfl (yl_move rfl rfl (sd rfl (yl_call Try.en38 rfl (opvs_cons rfl (opvs_cons rfl opvs_nil)) (Cal.mono (c_l_eqOpS ((i_OpsFor p_0 p_1).1) ((s_OpsFor p_0 p_1).1) (RdS.up hq973 good_Op) (RdS.up (RdS.ex good_Op (RdS.ex good_Op (RdS.mut good_Op (RdS.ex good_Op q676 hE679) hm683 (fun k hk => by simp only [InR, or_false, Iv, Ge] at hk ⊢; omega)) hE690) hE923) good_Op)) ?_))))))))))))
              rintro v980 w979 ⟨rfl, hE981⟩
              have hE981z := Ex.size hE981
              refine sd rfl (yl_not rfl rfl (sd rfl (yl_move rfl rfl (sy rfl rfl (not_t hb360) (yl_move rfl rfl (sy rfl rfl (not_t hb360) (yl_move rfl rfl (sy rfl rfl (not_t hb360) (yl_bneq Try.un4 rfl rfl rfl (sd rfl (yl_pick_f rfl rfl (not_t hb360) rfl (SeqR.done (tn (CW.cond_f rfl (not_t hb361) ?_))))))))))))))
              refine CW.skip (tn (CW.seq (CW.region (sd rfl (yl_assign rfl rfl (SeqR.done (tn (CW.seq (CW.region ?_)))))))))
              refine sd rfl (yl_move rfl rfl (sd rfl (yl_move rfl rfl ?_)))
              have q985 := OwnL.ex good_Op (OwnL.ex good_Op (OwnL.ex good_Op h684 hE690) hE923) hE981
              have hle982 := OwnL.len q985
              refine sd rfl (yl_call Try.en44 rfl (opvs_cons rfl (opvs_cons rfl opvs_nil)) (Cal.mono (Cal.args (by rw [← hle982] <;> rfl) (c_l_heldOpS ((l_markOpS ((i_OpsFor p_0 p_1).1) 1).2) 1 (RdS.fix (RdS.up (OwnL.rd good_Op q985) good_Op)) (by first | omega | assumption | (simp only [IntKind.wrap_i64] at *; omega)))) ?_))
              rintro v988 w987 ⟨rfl, hE989⟩
              have hE989z := Ex.size hE989
              have hrf990 := rf_heldOpS ((l_markOpS ((i_OpsFor p_0 p_1).1) 1).2) 1 (by first | omega | assumption | (simp only [IntKind.wrap_i64] at *; omega))
              refine sd rfl (yl_assign rfl rfl (SeqR.done (tn (CW.seq (CW.seq (CW.region (sd rfl (yl_move rfl rfl (sd rfl (yl_lss rfl rfl rfl (SeqR.done ?_)))))))))))
              refine tn (CW.cond_f rfl hb692 (CW.skip (tn (CW.seq (CW.seq (CW.region (sd rfl (yl_move rfl rfl (sd rfl (yl_move rfl rfl ?_))))))))))
              refine sd rfl (yl_neq rfl rfl rfl (SeqR.done (tn (CW.cond_f rfl (not_t hb714) (CW.skip (tn (CW.seq (CW.region (sd rfl (yl_assign rfl rfl ?_))))))))))
              refine SeqR.done (tn (CW.ret (rr rfl (.cons rfl .nil) ?_)))
              have hM991 : (l_FnExactOpsFor p_0 p_1) = (true) := by simp only [l_FnExactOpsFor, hb25, hb40, hb360, hb361, hb493, hb622, hb647, hb692, hb714, cond_true, cond_false, loopE_done, loopE_ret]
              rw [hM991]
              have q1008 := Ex.mut (Ex.mut (Ex.trans (Ex.trans (Ex.trans (Ex.trans (Below.only (Ex.trans (Ex.trans (Below.only (Ex.trans (Ex.trans (Ex.trans (Ex.trans (Ex.trans (Ex.trans (Ex.trans (Ex.refl w) hE10) hE16) hE24) hE39) hE224) hE281) hE290) hO293 (by omega)) hE310) hE319) hO322 (by omega)) hE347) hE359) hE468) hE597) hm631 (fun k hk => by simp only [InR, or_false] at hk; omega)) hm643 (fun k hk => by simp only [InR, or_false] at hk; omega)
              exact ⟨rfl, (Ex.trans (Ex.trans (Ex.trans (Ex.trans (Ex.mut (Ex.trans q1008 hE679) hm683 (fun k hk => by simp only [InR, or_false] at hk; omega)) hE690) hE923) hE981) hE989)⟩
            ·have hb714p := dec_f hb714
             refine CW.cond_t rfl (not_f hb714) (CW.seq (CW.region (sd rfl (yl_assign rfl rfl (SeqR.done (tn (CW.ret (tr (rr rfl (.cons rfl .nil) ?_)))))))))
             have hM1015 : (l_FnExactOpsFor p_0 p_1) = (false) := by simp only [l_FnExactOpsFor, hb25, hb40, hb360, hb361, hb493, hb622, hb647, hb692, hb714, cond_true, cond_false, loopE_done, loopE_ret]
             rw [hM1015]
             have q1032 := Ex.mut (Ex.mut (Ex.trans (Ex.trans (Ex.trans (Ex.trans (Below.only (Ex.trans (Ex.trans (Below.only (Ex.trans (Ex.trans (Ex.trans (Ex.trans (Ex.trans (Ex.trans (Ex.trans (Ex.refl w) hE10) hE16) hE24) hE39) hE224) hE281) hE290) hO293 (by omega)) hE310) hE319) hO322 (by omega)) hE347) hE359) hE468) hE597) hm631 (fun k hk => by simp only [InR, or_false] at hk; omega)) hm643 (fun k hk => by simp only [InR, or_false] at hk; omega)
             exact ⟨rfl, (Ex.trans (Ex.mut (Ex.trans q1032 hE679) hm683 (fun k hk => by simp only [InR, or_false] at hk; omega)) hE690)⟩
         ·refine CW.cond_t rfl (not_f hb622) (CW.seq (CW.region (sd rfl (yl_assign rfl rfl (SeqR.done (tn (CW.ret (tr (rr rfl (.cons rfl .nil) ?_)))))))))
          have hM1036 : (l_FnExactOpsFor p_0 p_1) = (false) := by simp only [l_FnExactOpsFor, hb25, hb40, hb360, hb361, hb493, hb622, cond_true, cond_false, loopE_done, loopE_ret]
          rw [hM1036]
          exact ⟨rfl, (Ex.trans (Ex.trans (Ex.trans (Ex.trans (Below.only (Ex.trans (Ex.trans (Below.only (Ex.trans (Ex.trans (Ex.trans (Ex.trans (Ex.trans (Ex.trans (Ex.trans (Ex.refl w) hE10) hE16) hE24) hE39) hE224) hE281) hE290) hO293 (by omega)) hE310) hE319) hO322 (by omega)) hE347) hE359) hE468) hE597)⟩
       ·refine CW.cond_t rfl (not_f hb493) (CW.seq (CW.region (sd rfl (yl_assign rfl rfl (SeqR.done (tn (CW.ret (tr (rr rfl (.cons rfl .nil) ?_)))))))))
        have hM1052 : (l_FnExactOpsFor p_0 p_1) = (false) := by simp only [l_FnExactOpsFor, hb25, hb40, hb360, hb361, hb493, cond_true, cond_false, loopE_done, loopE_ret]
        rw [hM1052]
        exact ⟨rfl, (Ex.trans (Ex.trans (Ex.trans (Below.only (Ex.trans (Ex.trans (Below.only (Ex.trans (Ex.trans (Ex.trans (Ex.trans (Ex.trans (Ex.trans (Ex.trans (Ex.refl w) hE10) hE16) hE24) hE39) hE224) hE281) hE290) hO293 (by omega)) hE310) hE319) hO322 (by omega)) hE347) hE359) hE468)⟩
     ·refine CW.cond_t rfl (not_f hb361) (CW.seq (CW.region (sd rfl (yl_assign rfl rfl (SeqR.done (tn (CW.ret (tr (rr rfl (.cons rfl .nil) ?_)))))))))
      have hM1067 : (l_FnExactOpsFor p_0 p_1) = (false) := by simp only [l_FnExactOpsFor, hb25, hb40, hb360, hb361, cond_true, cond_false, loopE_done, loopE_ret]
      rw [hM1067]
      exact ⟨rfl, (Ex.trans (Ex.trans (Below.only (Ex.trans (Ex.trans (Below.only (Ex.trans (Ex.trans (Ex.trans (Ex.trans (Ex.trans (Ex.trans (Ex.trans (Ex.refl w) hE10) hE16) hE24) hE39) hE224) hE281) hE290) hO293 (by omega)) hE310) hE319) hO322 (by omega)) hE347) hE359)⟩
    ·refine sz rfl rfl (not_f hb360) (sz rfl rfl (not_f hb360) (sz rfl rfl (not_f hb360) (sd rfl (yl_pick_t rfl rfl (not_f hb360) rfl (SeqR.done (tn (CW.cond_t rfl rfl (CW.seq (CW.region ?_)))))))))
     refine sd rfl (yl_assign rfl rfl (SeqR.done (tn (CW.ret (tr (rr rfl (.cons rfl .nil) ?_))))))
     have hM1081 : (l_FnExactOpsFor p_0 p_1) = (false) := by simp only [l_FnExactOpsFor, hb25, hb40, hb360, cond_true, cond_false, loopE_done, loopE_ret]
     rw [hM1081]
     exact ⟨rfl, (Ex.trans (Ex.trans (Below.only (Ex.trans (Ex.trans (Below.only (Ex.trans (Ex.trans (Ex.trans (Ex.trans (Ex.trans (Ex.trans (Ex.trans (Ex.refl w) hE10) hE16) hE24) hE39) hE224) hE281) hE290) hO293 (by omega)) hE310) hE319) hO322 (by omega)) hE347) hE359)⟩
end Go.Proofs.Ytjeafbkejeallaa
