/- Good Act: what each call returns, part 4. -/
import Derived.Test.YtmlfbjlkccnpmaaGoodActC3
set_option linter.unusedVariables false
set_option linter.unusedSimpArgs false
namespace Go.Proofs.Ytmlfbjlkccnpmaa
open Go.RowKit Go.X
set_option maxRecDepth 100000 in
set_option maxHeartbeats 2000000 in
theorem c_l_FnExactGoodAct {A1 : Option Addr} {c1 : Nat} {A2 : Option Addr} {c2 : Nat} {A3 : Option Addr} {c3 : Nat} {A4 : Option Addr} {c4 : Nat} {w : World} (p_aT : DTable) (p_aA : DRowAct) (h1 : RdS w (Iv 0 w.heap.size) (RF e_Str) 1 A1 p_aT.Cols.length c1 p_aT.Cols) (h2 : RdS w (Iv 0 w.heap.size) (RF e_Idx) 3 A2 p_aT.Idxs.length c2 p_aT.Idxs) (h3 : RdS w (Iv 0 w.heap.size) (RF e_Str) 1 A3 p_aA.Old.Vals.length c3 p_aA.Old.Vals) (h4 : RdS w (Iv 0 w.heap.size) (RF e_Str) 1 A4 p_aA.New.Vals.length c4 p_aA.New.Vals) (pre0 : wf_Table p_aT) (pre1 : wf_RowAct p_aA) : Cal Try.prog 3 #[.agg #[.string (bs (p_aT.Name)), .slice A1 p_aT.Cols.length c1, .slice A2 p_aT.Idxs.length c2], .agg #[.int .i64 (p_aA.Kind), .slice A3 p_aA.Old.Vals.length c3, .slice A4 p_aA.New.Vals.length c4]] w fun v w' => v = .bool ((l_FnExactGoodAct p_aT p_aA)) ∧ Ex w w' := by
  refine Cal.of (vs := [.agg #[.string (bs (p_aT.Name)), .slice A1 p_aT.Cols.length c1, .slice A2 p_aT.Idxs.length c2], .agg #[.int .i64 (p_aA.Kind), .slice A3 p_aA.Old.Vals.length c3, .slice A4 p_aA.New.Vals.length c4]]) Try.func3 rfl Try.ntmps3 rfl ?_
  refine CW.seq ?_
  refine CW.region ?_
  refine SeqR.d1 rfl rfl rfl (yl_box (cs := [.string (bs (p_aT.Name)), .slice A1 p_aT.Cols.length c1, .slice A2 p_aT.Idxs.length c2]) rfl rfl rfl ?_)
  intro b5 w6 hs7 hz8 hB9 hE10
  refine SeqR.d1 rfl rfl rfl (yl_box (cs := [.int .i64 (p_aA.Kind), .slice A3 p_aA.Old.Vals.length c3, .slice A4 p_aA.New.Vals.length c4]) rfl rfl rfl ?_)
  intro b11 w12 hs13 hz14 hB15 hE16
  refine SeqR.d1 rfl rfl rfl (yl_assign rfl rfl ?_)
  refine SeqR.done ?_
  refine tn ?_
  refine CW.seq ?_
  refine CW.region ?_
  refine SeqR.d1 rfl rfl rfl (yl_assign rfl rfl ?_)
  refine SeqR.done ?_
  refine tn ?_
  refine CW.seq ?_
  refine CW.region ?_
  have q17 := Box.ex hB9 hE16
  refine SeqR.d1 rfl rfl rfl (yl_loadN (cs := [.string (bs (p_aT.Name)), .slice A1 p_aT.Cols.length c1, .slice A2 p_aT.Idxs.length c2]) Try.ty25 rfl rfl (q17.cells (n := 3) rfl) rfl ?_)
  refine SeqR.d1 rfl rfl rfl (yl_move rfl rfl ?_)
  have q18 := RdS.ex good_Str h1 hE10
  have q19 := RdS.ex good_Str q18 hE16
  have q20 := RdS.ex good_Idx h2 hE10
  have q21 := RdS.ex good_Idx q20 hE16
  refine SeqR.d1 rfl rfl rfl (yl_call Try.en14 rfl (opvs_cons rfl (opvs_cons rfl opvs_nil)) (Cal.mono (c_l_szTable p_aT 1048576 (RdS.up q19 good_Str) (RdS.up q21 good_Idx)) ?_))
  rintro v23 w22 ⟨rfl, hE24⟩
  have hE24z := Ex.size hE24
  refine SeqR.d1 rfl rfl rfl (yl_assign rfl rfl ?_)
  refine SeqR.done ?_
  refine tn ?_
  refine CW.seq ?_
  refine CW.seq ?_
  refine CW.region ?_
  refine SeqR.d1 rfl rfl rfl (yl_move rfl rfl ?_)
  refine SeqR.d1 rfl rfl rfl (yl_lss rfl rfl rfl ?_)
  refine SeqR.done ?_
  refine tn ?_
  refine bcase (decide ((l_szTable p_aT 1048576) < 0)) (fun hb25 => ?_) (fun hb25 => ?_)
  · have hb25p := dec_t hb25
    refine CW.cond_t rfl hb25 ?_
    refine CW.seq ?_
    refine CW.region ?_
    refine SeqR.d1 rfl rfl rfl (yl_assign rfl rfl ?_)
    refine SeqR.done ?_
    refine tn ?_
    refine CW.ret ?_
    refine tr ?_
    refine rr rfl (.cons rfl .nil) ?_
    have hM26 : (l_FnExactGoodAct p_aT p_aA) = (true) := by simp only [l_FnExactGoodAct, hb25, cond_true, cond_false, loopE_done, loopE_ret]
    rw [hM26]
    have q27 := Ex.trans (Ex.refl w) hE10
    have q28 := Ex.trans q27 hE16
    have q29 := Ex.trans q28 hE24
    exact ⟨rfl, q29⟩
  · have hb25p := dec_f hb25
    refine CW.cond_f rfl hb25 ?_
    refine CW.skip ?_
    refine tn ?_
    refine CW.seq ?_
    refine CW.region ?_
    have q30 := Box.ex hB15 hE24
    refine SeqR.d1 rfl rfl rfl (yl_loadN (cs := [.int .i64 (p_aA.Kind), .slice A3 p_aA.Old.Vals.length c3, .slice A4 p_aA.New.Vals.length c4]) Try.ty29 rfl rfl (q30.cells (n := 3) rfl) rfl ?_)
    refine SeqR.d1 rfl rfl rfl (yl_move rfl rfl ?_)
    have q31 := RdS.ex good_Str h3 hE10
    have q32 := RdS.ex good_Str q31 hE16
    have q33 := RdS.ex good_Str q32 hE24
    have q34 := RdS.ex good_Str h4 hE10
    have q35 := RdS.ex good_Str q34 hE16
    have q36 := RdS.ex good_Str q35 hE24
    refine SeqR.d1 rfl rfl rfl (yl_call Try.en15 rfl (opvs_cons rfl (opvs_cons rfl opvs_nil)) (Cal.mono (c_l_szRowAct p_aA (l_szTable p_aT 1048576) (RdS.up q33 good_Str) (RdS.up q36 good_Str)) ?_))
    rintro v38 w37 ⟨rfl, hE39⟩
    have hE39z := Ex.size hE39
    refine SeqR.d1 rfl rfl rfl (yl_assign rfl rfl ?_)
    refine SeqR.done ?_
    refine tn ?_
    refine CW.seq ?_
    refine CW.seq ?_
    refine CW.region ?_
    refine SeqR.d1 rfl rfl rfl (yl_move rfl rfl ?_)
    refine SeqR.d1 rfl rfl rfl (yl_lss rfl rfl rfl ?_)
    refine SeqR.done ?_
    refine tn ?_
    refine bcase (decide ((l_szRowAct p_aA (l_szTable p_aT 1048576)) < 0)) (fun hb40 => ?_) (fun hb40 => ?_)
    · have hb40p := dec_t hb40
      refine CW.cond_t rfl hb40 ?_
      refine CW.seq ?_
      refine CW.region ?_
      refine SeqR.d1 rfl rfl rfl (yl_assign rfl rfl ?_)
      refine SeqR.done ?_
      refine tn ?_
      refine CW.ret ?_
      refine tr ?_
      refine rr rfl (.cons rfl .nil) ?_
      have hM41 : (l_FnExactGoodAct p_aT p_aA) = (true) := by simp only [l_FnExactGoodAct, hb25, hb40, cond_true, cond_false, loopE_done, loopE_ret]
      rw [hM41]
      have q42 := Ex.trans (Ex.refl w) hE10
      have q43 := Ex.trans q42 hE16
      have q44 := Ex.trans q43 hE24
      have q45 := Ex.trans q44 hE39
      exact ⟨rfl, q45⟩
    · have hb40p := dec_f hb40
      refine CW.cond_f rfl hb40 ?_
      refine CW.skip ?_
      refine tn ?_
      refine CW.seq ?_
      have q46 := Box.ex q17 hE24
      have q47 := Box.ex q46 hE39
      have q48 := RdS.ex good_Str q19 hE24
      have q49 := RdS.ex good_Str q48 hE39
      have q50 := RdS.ex good_Idx q21 hE24
      have q51 := RdS.ex good_Idx q50 hE39
      have q55 := Box.ex q30 hE39
      have q56 := RdS.ex good_Str q33 hE39
      have q57 := RdS.ex good_Str q36 hE39
      have q61 := OwnL.rd good_Str h53
      have q62 := OwnL.rd good_Idx h54
      have q63 := OwnL.rd good_Str h59
      have q64 := OwnL.rd good_Str h60
      refine CW.drawsI 6 (vgetI [DetI (.agg #[.string (bs (p_aT.Name)), .slice A1 p_aT.Cols.length c1, .slice A2 p_aT.Idxs.length c2]), fun lo hi v w => ∃ A53 c53 lo53 hi53 A54 c54 lo54 hi54, v = .agg #[.string (bs (p_aT.Name)), .slice A53 p_aT.Cols.length c53, .slice A54 p_aT.Idxs.length c54] ∧ OwnL w lo53 hi53 9 1 (RF e_Str) A53 p_aT.Cols.length c53 p_aT.Cols ∧ OwnL w lo54 hi54 132 3 (RF e_Idx) A54 p_aT.Idxs.length c54 p_aT.Idxs ∧ (lo ≤ lo53 ∧ lo53 ≤ hi53 ∧ hi53 ≤ hi) ∧ (lo ≤ lo54 ∧ lo54 ≤ hi54 ∧ hi54 ≤ hi) ∧ (hi53 ≤ lo54 ∨ hi54 ≤ lo53), DetI (.agg #[.int .i64 (p_aA.Kind), .slice A3 p_aA.Old.Vals.length c3, .slice A4 p_aA.New.Vals.length c4]), fun lo hi v w => ∃ A59 c59 lo59 hi59 A60 c60 lo60 hi60, v = .agg #[.int .i64 (p_aA.Kind), .slice A59 p_aA.Old.Vals.length c59, .slice A60 p_aA.New.Vals.length c60] ∧ OwnL w lo59 hi59 9 1 (RF e_Str) A59 p_aA.Old.Vals.length c59 p_aA.Old.Vals ∧ OwnL w lo60 hi60 9 1 (RF e_Str) A60 p_aA.New.Vals.length c60 p_aA.New.Vals ∧ (lo ≤ lo59 ∧ lo59 ≤ hi59 ∧ hi59 ≤ hi) ∧ (lo ≤ lo60 ∧ lo60 ≤ hi60 ∧ hi60 ≤ hi) ∧ (hi59 ≤ lo60 ∨ hi60 ≤ lo59), DetI (.bool ((s_GoodAct p_aT p_aA))), DetI (.bool ((s_GoodAct p_aT p_aA)))]) Try.follows rfl rfl rfl rfl rfl rfl (vgetI_stable ⟨StableI.det _, (fun _ _ _ _ _ ⟨A53, c53, lo53, hi53, A54, c54, lo54, hi54, hv, h53, h54, hr0, hr1, hr2⟩ e => ⟨A53, c53, lo53, hi53, A54, c54, lo54, hi54, hv, OwnL.ex good_Str h53 e, OwnL.ex good_Idx h54 e, hr0, hr1, hr2⟩), StableI.det _, (fun _ _ _ _ _ ⟨A59, c59, lo59, hi59, A60, c60, lo60, hi60, hv, h59, h60, hr0, hr1, hr2⟩ e => ⟨A59, c59, lo59, hi59, A60, c60, lo60, hi60, hv, OwnL.ex good_Str h59 e, OwnL.ex good_Str h60 e, hr0, hr1, hr2⟩), StableI.det _, StableI.det _, trivial⟩) ⟨?_, ?_, ?_, ?_, ?_, ?_, trivial⟩ ?_
      · intro L66 w67 hi68
        have hE69 := hi68.ex
        have hE69z := Ex.size hE69
        have hx70 := hi68.old 2 _ rfl rfl
        have q71 := Box.ex q47 hE69
        exact OpR.op' rfl (Yl.sameI (yl_loadN (cs := [.string (bs (p_aT.Name)), .slice A1 p_aT.Cols.length c1, .slice A2 p_aT.Idxs.length c2]) Try.ty25 rfl hx70 (q71.cells (n := 3) rfl) rfl ⟨fun _ _ => rfl, rfl⟩))
      · intro L72 w73 hi74
        have hE75 := hi74.ex
        have hE75z := Ex.size hE75
        obtain ⟨_, _, _, hx76, -, -, -, rfl⟩ := hi74.dep 0 20 rfl rfl
        have q77 := RdS.ex good_Str q49 hE75
        have q78 := RdS.ex good_Idx q51 hE75
        refine OpR.op' rfl (yl_call Try.en17 rfl (opvs_cons hx76 opvs_nil) (Cal.mono (c_l_toTable p_aT (RdS.up q77 good_Str) (RdS.up q78 good_Idx) ((szok_Table pre0 (by decide) (dec_f hb25)).1)) ?_))
        rintro v82 w79 ⟨A80, c80, lo80, hi80, A81, c81, lo81, hi81, rfl, h80, h81, hrn84, hrn85, hrn86, hE83⟩
        exact ⟨⟨A80, c80, lo80, hi80, A81, c81, lo81, hi81, rfl, h80, h81, hrn84, hrn85, hrn86⟩, hE83⟩
      · intro L87 w88 hi89
        have hE90 := hi89.ex
        have hE90z := Ex.size hE90
        have hx91 := hi89.old 3 _ rfl rfl
        have q92 := Box.ex q55 hE90
        exact OpR.op' rfl (Yl.sameI (yl_loadN (cs := [.int .i64 (p_aA.Kind), .slice A3 p_aA.Old.Vals.length c3, .slice A4 p_aA.New.Vals.length c4]) Try.ty29 rfl hx91 (q92.cells (n := 3) rfl) rfl ⟨fun _ _ => rfl, rfl⟩))
      · intro L93 w94 hi95
        have hE96 := hi95.ex
        have hE96z := Ex.size hE96
        obtain ⟨_, _, _, hx97, -, -, -, rfl⟩ := hi95.dep 2 22 rfl rfl
        have q98 := RdS.ex good_Str q56 hE96
        have q99 := RdS.ex good_Str q57 hE96
        refine OpR.op' rfl (yl_call Try.en18 rfl (opvs_cons hx97 opvs_nil) (Cal.mono (c_l_toRowAct p_aA (RdS.up q98 good_Str) (RdS.up q99 good_Str) ((szok_RowAct pre1 (szok_Table pre0 (by decide) (dec_f hb25)).2 (dec_f hb40)).1)) ?_))
        rintro v103 w100 ⟨A101, c101, lo101, hi101, A102, c102, lo102, hi102, rfl, h101, h102, hrn105, hrn106, hrn107, hE104⟩
        exact ⟨⟨A101, c101, lo101, hi101, A102, c102, lo102, hi102, rfl, h101, h102, hrn105, hrn106, hrn107⟩, hE104⟩
      · intro L108 w109 hi110
        have hE111 := hi110.ex
        have hE111z := Ex.size hE111
        obtain ⟨lo113, hh114, _, hx112, hr115, hr116, hr117, A53_118, c53_119, lo53_120, hi53_121, A54_122, c54_123, lo54_124, hi54_125, rfl, h126, h127, hrn128, hrn129, hrn130⟩ := hi110.dep 1 21 rfl rfl
        obtain ⟨lo132, hh133, _, hx131, hr134, hr135, hr136, A59_137, c59_138, lo59_139, hi59_140, A60_141, c60_142, lo60_143, hi60_144, rfl, h145, h146, hrn147, hrn148, hrn149⟩ := hi110.dep 3 23 rfl rfl
        have q150 := OwnL.rd good_Str h126
        have q151 := OwnL.rd good_Idx h127
        have q152 := OwnL.rd good_Str h145
        have q153 := OwnL.rd good_Str h146
        refine OpR.op' rfl (yl_call Try.en16 rfl (opvs_cons hx112 (opvs_cons hx131 opvs_nil)) (Cal.mono (c_s_GoodAct p_aT p_aA (RdS.up q150 good_Str) (RdS.up q151 good_Idx) (RdS.up q152 good_Str) (RdS.up q153 good_Str) ((szok_Table pre0 (by decide) (dec_f hb25)).1) ((szok_RowAct pre1 (szok_Table pre0 (by decide) (dec_f hb25)).2 (dec_f hb40)).1)) ?_))
        rintro v155 w154 ⟨rfl, hE156⟩
        exact ⟨rfl, hE156⟩
      · intro L157 w158 hi159
        have hE160 := hi159.ex
        have hE160z := Ex.size hE160
        obtain ⟨_, _, _, hx161, -, -, -, rfl⟩ := hi159.dep 4 24 rfl rfl
        exact OpR.op' rfl (Yl.sameI (yl_assign rfl hx161 ⟨fun _ _ => rfl, rfl⟩))
      · intro fl165 fh166 L162 w163 hp164
        have hE167 := hp164.ex
        have hE167z := Ex.size hE167
        have hx168 := hp164.old 2 _ rfl rfl
        have hx169 := hp164.old 3 _ rfl rfl
        have hr171 := hp164.rng 1 rfl
        obtain ⟨_, hx170, A53_172, c53_173, lo53_174, hi53_175, A54_176, c54_177, lo54_178, hi54_179, rfl, h180, h181, hrn182, hrn183, hrn184⟩ := hp164.new 1 21 rfl rfl
        have hr186 := hp164.rng 3 rfl
        have hsp187 := hp164.sep 1 3 rfl rfl rfl
        obtain ⟨_, hx185, A59_188, c59_189, lo59_190, hi59_191, A60_192, c60_193, lo60_194, hi60_195, rfl, h196, h197, hrn198, hrn199, hrn200⟩ := hp164.new 3 23 rfl rfl
        obtain ⟨_, hx201, rfl⟩ := hp164.new 5 6 rfl rfl
        refine SeqR.done ?_
        refine tn ?_
        refine CW.sub (Sub.cons (d := 2) hx168 (Sub.cons (d := 3) hx169 (Sub.cons (d := 6) hx201 (Sub.nil _)))) ?_
        refine CW.seq ?_
        refine CW.region ?_
        have q202 := Box.ex q47 hE167
        refine SeqR.d1 rfl rfl rfl (yl_loadN (cs := [.string (bs (p_aT.Name)), .slice A1 p_aT.Cols.length c1, .slice A2 p_aT.Idxs.length c2]) Try.ty25 rfl rfl (q202.cells (n := 3) rfl) rfl ?_)
        have q203 := RdS.ex good_Str q49 hE167
        have q204 := RdS.ex good_Idx q51 hE167
        refine SeqR.d1 rfl rfl rfl (yl_call Try.en17 rfl (opvs_cons rfl opvs_nil) (Cal.mono (c_l_toTable p_aT (RdS.up q203 good_Str) (RdS.up q204 good_Idx) ((szok_Table pre0 (by decide) (dec_f hb25)).1)) ?_))
        rintro v208 w205 ⟨A206, c206, lo206, hi206, A207, c207, lo207, hi207, rfl, h206, h207, hrn210, hrn211, hrn212, hE209⟩
        have hE209z := Ex.size hE209
        refine SeqR.d1 rfl rfl rfl (yl_alloc Try.ty35 (cs := [.string (bs (([] : Str))), .slice none 0 0, .slice none 0 0]) rfl rfl ?_)
        intro b213 w214 hs215 hz216 hB217 hE218
        refine SeqR.u rfl rfl (yl_store (vs := [.string (bs (p_aT.Name)), .slice A206 p_aT.Cols.length c206, .slice A207 p_aT.Idxs.length c207]) Try.ty35 rfl rfl rfl rfl rfl rfl hB217 (Nat.le_of_ble_eq_true rfl) ?_)
        intro w219 hB220 hO221
        have hB220 : Box w219 b213 35 [.string (bs (p_aT.Name)), .slice A206 p_aT.Cols.length c206, .slice A207 p_aT.Idxs.length c207] := hB220
        have hO221z := hO221.size
        refine SeqR.done ?_
        refine tn ?_
        refine CW.seq ?_
        refine CW.region ?_
        have q222 := Box.ex q55 hE167
        have q223 := Box.ex q222 hE209
        have q224 := Box.ex q223 hE218
        have q225 := Box.only q224 hO221 (by omega)
        refine SeqR.d1 rfl rfl rfl (yl_loadN (cs := [.int .i64 (p_aA.Kind), .slice A3 p_aA.Old.Vals.length c3, .slice A4 p_aA.New.Vals.length c4]) Try.ty29 rfl rfl (q225.cells (n := 3) rfl) rfl ?_)
        have q226 := RdS.ex good_Str q56 hE167
        have q227 := RdS.ex good_Str q226 hE209
        have q228 := RdS.ex good_Str q227 hE218
        have q229 := RdS.only good_Str q228 hO221 (by simp only [Iv]; omega)
        have q230 := RdS.ex good_Str q57 hE167
        have q231 := RdS.ex good_Str q230 hE209
        have q232 := RdS.ex good_Str q231 hE218
        have q233 := RdS.only good_Str q232 hO221 (by simp only [Iv]; omega)
        refine SeqR.d1 rfl rfl rfl (yl_call Try.en18 rfl (opvs_cons rfl opvs_nil) (Cal.mono (c_l_toRowAct p_aA (RdS.up q229 good_Str) (RdS.up q233 good_Str) ((szok_RowAct pre1 (szok_Table pre0 (by decide) (dec_f hb25)).2 (dec_f hb40)).1)) ?_))
        rintro v237 w234 ⟨A235, c235, lo235, hi235, A236, c236, lo236, hi236, rfl, h235, h236, hrn239, hrn240, hrn241, hE238⟩
        have hE238z := Ex.size hE238
        refine SeqR.d1 rfl rfl rfl (yl_alloc Try.ty39 (cs := [.int .i64 (0), .slice none 0 0, .slice none 0 0]) rfl rfl ?_)
        intro b242 w243 hs244 hz245 hB246 hE247
        refine SeqR.u rfl rfl (yl_store (vs := [.int .i64 (p_aA.Kind), .slice A235 p_aA.Old.Vals.length c235, .slice A236 p_aA.New.Vals.length c236]) Try.ty39 rfl rfl rfl rfl rfl rfl hB246 (Nat.le_of_ble_eq_true rfl) ?_)
        intro w248 hB249 hO250
        have hB249 : Box w248 b242 39 [.int .i64 (p_aA.Kind), .slice A235 p_aA.Old.Vals.length c235, .slice A236 p_aA.New.Vals.length c236] := hB249
        have hO250z := hO250.size
        refine SeqR.done ?_
        refine tn ?_
        refine CW.seq ?_
        refine CW.region ?_
        have q251 := Box.ex hB220 hE238
        have q252 := Box.ex q251 hE247
        have q253 := Box.only q252 hO250 (by omega)
        refine SeqR.d1 rfl rfl rfl (yl_loadN (cs := [.string (bs (p_aT.Name)), .slice A206 p_aT.Cols.length c206, .slice A207 p_aT.Idxs.length c207]) Try.ty35 rfl rfl (q253.cells (n := 3) rfl) rfl ?_)
        refine SeqR.d1 rfl rfl rfl (yl_loadN (cs := [.int .i64 (p_aA.Kind), .slice A235 p_aA.Old.Vals.length c235, .slice A236 p_aA.New.Vals.length c236]) Try.ty39 rfl rfl (hB249.cells (n := 3) rfl) rfl ?_)
        have q255 := OwnL.ex good_Str h206 hE218
        have q256 := OwnL.only good_Str q255 hO221 (by omega)
        have q257 := OwnL.ex good_Str q256 hE238
        have q258 := OwnL.ex good_Str q257 hE247
        have q259 := OwnL.only good_Str q258 hO250 (by omega)
        have q254 := OwnL.rd good_Str q259
        have q261 := OwnL.ex good_Idx h207 hE218
        have q262 := OwnL.only good_Idx q261 hO221 (by omega)
        have q263 := OwnL.ex good_Idx q262 hE238
        have q264 := OwnL.ex good_Idx q263 hE247
        have q265 := OwnL.only good_Idx q264 hO250 (by omega)
        have q260 := OwnL.rd good_Idx q265
        have q267 := OwnL.ex good_Str h235 hE247
        have q268 := OwnL.only good_Str q267 hO250 (by omega)
        have q266 := OwnL.rd good_Str q268
        have q270 := OwnL.ex good_Str h236 hE247
        have q271 := OwnL.only good_Str q270 hO250 (by omega)
        have q269 := OwnL.rd good_Str q271
        refine SeqR.d1 rfl rfl rfl (yl_call Try.en19 rfl (opvs_cons rfl (opvs_cons rfl opvs_nil)) (Cal.mono (c_i_GoodAct p_aT p_aA (RdS.up q254 good_Str) (RdS.up q260 good_Idx) (RdS.up q266 good_Str) (RdS.up q269 good_Str) ((szok_Table pre0 (by decide) (dec_f hb25)).1) ((szok_RowAct pre1 (szok_Table pre0 (by decide) (dec_f hb25)).2 (dec_f hb40)).1)) ?_))
        rintro v273 w272 ⟨rfl, hE274⟩
        have hE274z := Ex.size hE274
        refine SeqR.d1 rfl rfl rfl (yl_assign rfl rfl ?_)
        refine SeqR.done ?_
        refine tn ?_
        refine CW.seq ?_
        refine CW.seq ?_
        refine CW.region ?_
        refine SeqR.d1 rfl rfl rfl (yl_move rfl rfl ?_)
        refine SeqR.d1 rfl rfl rfl (yl_move rfl rfl ?_)
        refine SeqR.d1 rfl rfl rfl (yl_bneq Try.un4 rfl rfl rfl ?_)
        refine SeqR.done ?_
        refine tn ?_
        refine bcase ((i_GoodAct p_aT p_aA) == (s_GoodAct p_aT p_aA)) (fun hb275 => ?_) (fun hb275 => ?_)
        · skip
          refine CW.cond_f rfl (not_t hb275) ?_
          refine CW.skip ?_
          refine tn ?_
          refine CW.seq ?_
          refine CW.seq ?_
          have q276 := Box.ex q253 hE274
          have q277 := Box.ex q202 hE209
          have q278 := Box.ex q277 hE218
          have q279 := Box.only q278 hO221 (by omega)
          have q280 := Box.ex q279 hE238
          have q281 := Box.ex q280 hE247
          have q282 := Box.only q281 hO250 (by omega)
          have q283 := Box.ex q282 hE274
          have q284 := RdS.ex good_Str q203 hE209
          have q285 := RdS.ex good_Str q284 hE218
          have q286 := RdS.only good_Str q285 hO221 (by simp only [Iv]; omega)
          have q287 := RdS.ex good_Str q286 hE238
          have q288 := RdS.ex good_Str q287 hE247
          have q289 := RdS.only good_Str q288 hO250 (by simp only [Iv]; omega)
          have q290 := RdS.ex good_Str q289 hE274
          have q291 := RdS.ex good_Idx q204 hE209
          have q292 := RdS.ex good_Idx q291 hE218
          have q293 := RdS.only good_Idx q292 hO221 (by simp only [Iv]; omega)
          have q294 := RdS.ex good_Idx q293 hE238
          have q295 := RdS.ex good_Idx q294 hE247
          have q296 := RdS.only good_Idx q295 hO250 (by simp only [Iv]; omega)
          have q297 := RdS.ex good_Idx q296 hE274
          have q302 := OwnL.ex good_Str q259 hE274
          have q301 := OwnL.rd good_Str q302
          have q304 := OwnL.ex good_Idx q265 hE274
          have q303 := OwnL.rd good_Idx q304
          have q305 := OwnL.rd good_Str h299
          have q306 := OwnL.rd good_Idx h300
          refine CW.drawsI 5 (vgetI [DetI (.agg #[.string (bs (p_aT.Name)), .slice A206 p_aT.Cols.length c206, .slice A207 p_aT.Idxs.length c207]), DetI (.agg #[.string (bs (p_aT.Name)), .slice A1 p_aT.Cols.length c1, .slice A2 p_aT.Idxs.length c2]), fun lo hi v w => ∃ A299 c299 lo299 hi299 A300 c300 lo300 hi300, v = .agg #[.string (bs (p_aT.Name)), .slice A299 p_aT.Cols.length c299, .slice A300 p_aT.Idxs.length c300] ∧ OwnL w lo299 hi299 9 1 (RF e_Str) A299 p_aT.Cols.length c299 p_aT.Cols ∧ OwnL w lo300 hi300 132 3 (RF e_Idx) A300 p_aT.Idxs.length c300 p_aT.Idxs ∧ (lo ≤ lo299 ∧ lo299 ≤ hi299 ∧ hi299 ≤ hi) ∧ (lo ≤ lo300 ∧ lo300 ≤ hi300 ∧ hi300 ≤ hi) ∧ (hi299 ≤ lo300 ∨ hi300 ≤ lo299), DetI (.bool ((l_eqTable p_aT p_aT))), DetI (.bool (!(l_eqTable p_aT p_aT)))]) Try.follows rfl rfl rfl rfl rfl rfl (vgetI_stable ⟨StableI.det _, StableI.det _, (fun _ _ _ _ _ ⟨A299, c299, lo299, hi299, A300, c300, lo300, hi300, hv, h299, h300, hr0, hr1, hr2⟩ e => ⟨A299, c299, lo299, hi299, A300, c300, lo300, hi300, hv, OwnL.ex good_Str h299 e, OwnL.ex good_Idx h300 e, hr0, hr1, hr2⟩), StableI.det _, StableI.det _, trivial⟩) ⟨?_, ?_, ?_, ?_, ?_, trivial⟩ ?_
          · intro L308 w309 hi310
            have hE311 := hi310.ex
            have hE311z := Ex.size hE311
            have hx312 := hi310.old 7 _ rfl rfl
            have q313 := Box.ex q276 hE311
            exact OpR.op' rfl (Yl.sameI (yl_loadN (cs := [.string (bs (p_aT.Name)), .slice A206 p_aT.Cols.length c206, .slice A207 p_aT.Idxs.length c207]) Try.ty35 rfl hx312 (q313.cells (n := 3) rfl) rfl ⟨fun _ _ => rfl, rfl⟩))
          · intro L314 w315 hi316
            have hE317 := hi316.ex
            have hE317z := Ex.size hE317
            have hx318 := hi316.old 2 _ rfl rfl
            have q319 := Box.ex q283 hE317
            exact OpR.op' rfl (Yl.sameI (yl_loadN (cs := [.string (bs (p_aT.Name)), .slice A1 p_aT.Cols.length c1, .slice A2 p_aT.Idxs.length c2]) Try.ty25 rfl hx318 (q319.cells (n := 3) rfl) rfl ⟨fun _ _ => rfl, rfl⟩))
          · intro L320 w321 hi322
            have hE323 := hi322.ex
            have hE323z := Ex.size hE323
            obtain ⟨_, _, _, hx324, -, -, -, rfl⟩ := hi322.dep 1 36 rfl rfl
            have q325 := RdS.ex good_Str q290 hE323
            have q326 := RdS.ex good_Idx q297 hE323
            refine OpR.op' rfl (yl_call Try.en17 rfl (opvs_cons hx324 opvs_nil) (Cal.mono (c_l_toTable p_aT (RdS.up q325 good_Str) (RdS.up q326 good_Idx) ((szok_Table pre0 (by decide) (dec_f hb25)).1)) ?_))
            rintro v330 w327 ⟨A328, c328, lo328, hi328, A329, c329, lo329, hi329, rfl, h328, h329, hrn332, hrn333, hrn334, hE331⟩
            exact ⟨⟨A328, c328, lo328, hi328, A329, c329, lo329, hi329, rfl, h328, h329, hrn332, hrn333, hrn334⟩, hE331⟩
          · intro L335 w336 hi337
            have hE338 := hi337.ex
            have hE338z := Ex.size hE338
            obtain ⟨_, _, _, hx339, -, -, -, rfl⟩ := hi337.dep 0 35 rfl rfl
            obtain ⟨lo341, hh342, _, hx340, hr343, hr344, hr345, A299_346, c299_347, lo299_348, hi299_349, A300_350, c300_351, lo300_352, hi300_353, rfl, h354, h355, hrn356, hrn357, hrn358⟩ := hi337.dep 2 37 rfl rfl
            have q360 := OwnL.ex good_Str q302 hE338
            have q359 := OwnL.rd good_Str q360
            have q362 := OwnL.ex good_Idx q304 hE338
            have q361 := OwnL.rd good_Idx q362
            have q363 := OwnL.rd good_Str h354
            have q364 := OwnL.rd good_Idx h355
            refine OpR.op' rfl (yl_call Try.en20 rfl (opvs_cons hx339 (opvs_cons hx340 opvs_nil)) (Cal.mono (c_l_eqTable p_aT p_aT (RdS.up q359 good_Str) (RdS.up q361 good_Idx) (RdS.up q363 good_Str) (RdS.up q364 good_Idx)) ?_))
            rintro v366 w365 ⟨rfl, hE367⟩
            exact ⟨rfl, hE367⟩
          · intro L368 w369 hi370
            have hE371 := hi370.ex
            have hE371z := Ex.size hE371
            obtain ⟨_, _, _, hx372, -, -, -, rfl⟩ := hi370.dep 3 38 rfl rfl
            exact OpR.op' rfl (Yl.sameI (yl_not rfl hx372 ⟨fun _ _ => rfl, rfl⟩))
          · intro fl376 fh377 L373 w374 hp375
            have hE378 := hp375.ex
            have hE378z := Ex.size hE378
            have hx379 := hp375.old 3 _ rfl rfl
            have hx380 := hp375.old 8 _ rfl rfl
            have hr382 := hp375.rng 2 rfl
            obtain ⟨_, hx381, A299_383, c299_384, lo299_385, hi299_386, A300_387, c300_388, lo300_389, hi300_390, rfl, h391, h392, hrn393, hrn394, hrn395⟩ := hp375.new 2 37 rfl rfl
            obtain ⟨_, hx396, rfl⟩ := hp375.new 4 39 rfl rfl
            refine SeqR.done ?_
            refine tn ?_
            refine CW.sub (Sub.cons (d := 3) hx379 (Sub.cons (d := 8) hx380 (Sub.cons (d := 39) hx396 (Sub.nil _)))) ?_
            refine bcase (l_eqTable p_aT p_aT) (fun hb397 => ?_) (fun hb397 => ?_)
            · skip
              refine CW.cond_f rfl (not_t hb397) ?_
              refine CW.skip ?_
              refine tn ?_
              refine CW.seq ?_
              refine CW.seq ?_
              have q398 := Box.ex hB249 hE274
              have q399 := Box.ex q398 hE378
              have q400 := Box.ex q225 hE238
              have q401 := Box.ex q400 hE247
              have q402 := Box.only q401 hO250 (by omega)
              have q403 := Box.ex q402 hE274
              have q404 := Box.ex q403 hE378
              have q405 := RdS.ex good_Str q229 hE238
              have q406 := RdS.ex good_Str q405 hE247
              have q407 := RdS.only good_Str q406 hO250 (by simp only [Iv]; omega)
              have q408 := RdS.ex good_Str q407 hE274
              have q409 := RdS.ex good_Str q408 hE378
              have q410 := RdS.ex good_Str q233 hE238
              have q411 := RdS.ex good_Str q410 hE247
              have q412 := RdS.only good_Str q411 hO250 (by simp only [Iv]; omega)
              have q413 := RdS.ex good_Str q412 hE274
              have q414 := RdS.ex good_Str q413 hE378
              have q419 := OwnL.ex good_Str q268 hE274
              have q420 := OwnL.ex good_Str q419 hE378
              have q418 := OwnL.rd good_Str q420
              have q422 := OwnL.ex good_Str q271 hE274
              have q423 := OwnL.ex good_Str q422 hE378
              have q421 := OwnL.rd good_Str q423
              have q424 := OwnL.rd good_Str h416
              have q425 := OwnL.rd good_Str h417
              refine CW.drawsI 5 (vgetI [DetI (.agg #[.int .i64 (p_aA.Kind), .slice A235 p_aA.Old.Vals.length c235, .slice A236 p_aA.New.Vals.length c236]), DetI (.agg #[.int .i64 (p_aA.Kind), .slice A3 p_aA.Old.Vals.length c3, .slice A4 p_aA.New.Vals.length c4]), fun lo hi v w => ∃ A416 c416 lo416 hi416 A417 c417 lo417 hi417, v = .agg #[.int .i64 (p_aA.Kind), .slice A416 p_aA.Old.Vals.length c416, .slice A417 p_aA.New.Vals.length c417] ∧ OwnL w lo416 hi416 9 1 (RF e_Str) A416 p_aA.Old.Vals.length c416 p_aA.Old.Vals ∧ OwnL w lo417 hi417 9 1 (RF e_Str) A417 p_aA.New.Vals.length c417 p_aA.New.Vals ∧ (lo ≤ lo416 ∧ lo416 ≤ hi416 ∧ hi416 ≤ hi) ∧ (lo ≤ lo417 ∧ lo417 ≤ hi417 ∧ hi417 ≤ hi) ∧ (hi416 ≤ lo417 ∨ hi417 ≤ lo416), DetI (.bool ((l_eqRowAct p_aA p_aA))), DetI (.bool (!(l_eqRowAct p_aA p_aA)))]) Try.follows rfl rfl rfl rfl rfl rfl (vgetI_stable ⟨StableI.det _, StableI.det _, (fun _ _ _ _ _ ⟨A416, c416, lo416, hi416, A417, c417, lo417, hi417, hv, h416, h417, hr0, hr1, hr2⟩ e => ⟨A416, c416, lo416, hi416, A417, c417, lo417, hi417, hv, OwnL.ex good_Str h416 e, OwnL.ex good_Str h417 e, hr0, hr1, hr2⟩), StableI.det _, StableI.det _, trivial⟩) ⟨?_, ?_, ?_, ?_, ?_, trivial⟩ ?_
              · intro L427 w428 hi429
                have hE430 := hi429.ex
                have hE430z := Ex.size hE430
                have hx431 := hi429.old 8 _ rfl rfl
                have q432 := Box.ex q399 hE430
                exact OpR.op' rfl (Yl.sameI (yl_loadN (cs := [.int .i64 (p_aA.Kind), .slice A235 p_aA.Old.Vals.length c235, .slice A236 p_aA.New.Vals.length c236]) Try.ty39 rfl hx431 (q432.cells (n := 3) rfl) rfl ⟨fun _ _ => rfl, rfl⟩))
              · intro L433 w434 hi435
                have hE436 := hi435.ex
                have hE436z := Ex.size hE436
                have hx437 := hi435.old 3 _ rfl rfl
                have q438 := Box.ex q404 hE436
                exact OpR.op' rfl (Yl.sameI (yl_loadN (cs := [.int .i64 (p_aA.Kind), .slice A3 p_aA.Old.Vals.length c3, .slice A4 p_aA.New.Vals.length c4]) Try.ty29 rfl hx437 (q438.cells (n := 3) rfl) rfl ⟨fun _ _ => rfl, rfl⟩))
              · intro L439 w440 hi441
                have hE442 := hi441.ex
                have hE442z := Ex.size hE442
                obtain ⟨_, _, _, hx443, -, -, -, rfl⟩ := hi441.dep 1 41 rfl rfl
                have q444 := RdS.ex good_Str q409 hE442
                have q445 := RdS.ex good_Str q414 hE442
                refine OpR.op' rfl (yl_call Try.en18 rfl (opvs_cons hx443 opvs_nil) (Cal.mono (c_l_toRowAct p_aA (RdS.up q444 good_Str) (RdS.up q445 good_Str) ((szok_RowAct pre1 (szok_Table pre0 (by decide) (dec_f hb25)).2 (dec_f hb40)).1)) ?_))
                rintro v449 w446 ⟨A447, c447, lo447, hi447, A448, c448, lo448, hi448, rfl, h447, h448, hrn451, hrn452, hrn453, hE450⟩
                exact ⟨⟨A447, c447, lo447, hi447, A448, c448, lo448, hi448, rfl, h447, h448, hrn451, hrn452, hrn453⟩, hE450⟩
              · intro L454 w455 hi456
                have hE457 := hi456.ex
                have hE457z := Ex.size hE457
                obtain ⟨_, _, _, hx458, -, -, -, rfl⟩ := hi456.dep 0 40 rfl rfl
                obtain ⟨lo460, hh461, _, hx459, hr462, hr463, hr464, A416_465, c416_466, lo416_467, hi416_468, A417_469, c417_470, lo417_471, hi417_472, rfl, h473, h474, hrn475, hrn476, hrn477⟩ := hi456.dep 2 42 rfl rfl
                have q479 := OwnL.ex good_Str q420 hE457
                have q478 := OwnL.rd good_Str q479
                have q481 := OwnL.ex good_Str q423 hE457
                have q480 := OwnL.rd good_Str q481
                have q482 := OwnL.rd good_Str h473
                have q483 := OwnL.rd good_Str h474
                refine OpR.op' rfl (yl_call Try.en21 rfl (opvs_cons hx458 (opvs_cons hx459 opvs_nil)) (Cal.mono (c_l_eqRowAct p_aA p_aA (RdS.up q478 good_Str) (RdS.up q480 good_Str) (RdS.up q482 good_Str) (RdS.up q483 good_Str)) ?_))
                rintro v485 w484 ⟨rfl, hE486⟩
                exact ⟨rfl, hE486⟩
              · intro L487 w488 hi489
                have hE490 := hi489.ex
                have hE490z := Ex.size hE490
                obtain ⟨_, _, _, hx491, -, -, -, rfl⟩ := hi489.dep 3 43 rfl rfl
                exact OpR.op' rfl (Yl.sameI (yl_not rfl hx491 ⟨fun _ _ => rfl, rfl⟩))
              · intro fl495 fh496 L492 w493 hp494
                have hE497 := hp494.ex
                have hE497z := Ex.size hE497
                have hr499 := hp494.rng 2 rfl
                obtain ⟨_, hx498, A416_500, c416_501, lo416_502, hi416_503, A417_504, c417_505, lo417_506, hi417_507, rfl, h508, h509, hrn510, hrn511, hrn512⟩ := hp494.new 2 42 rfl rfl
                obtain ⟨_, hx513, rfl⟩ := hp494.new 4 44 rfl rfl
                refine SeqR.done ?_
                refine tn ?_
                refine CW.sub (Sub.cons (d := 44) hx513 (Sub.nil _)) ?_
                refine bcase (l_eqRowAct p_aA p_aA) (fun hb514 => ?_) (fun hb514 => ?_)
                · skip
                  refine CW.cond_f rfl (not_t hb514) ?_
                  refine CW.skip ?_
                  refine tn ?_
                  refine CW.seq ?_
                  refine CW.region ?_
                  refine SeqR.d1 rfl rfl rfl (yl_assign rfl rfl ?_)
                  refine SeqR.done ?_
                  refine tn ?_
                  refine CW.ret ?_
                  refine rr rfl (.cons rfl .nil) ?_
                  have hM515 : (l_FnExactGoodAct p_aT p_aA) = (true) := by simp only [l_FnExactGoodAct, hb25, hb40, hb275, hb397, hb514, cond_true, cond_false, loopE_done, loopE_ret]
                  rw [hM515]
                  have q516 := Ex.trans (Ex.refl w) hE10
                  have q517 := Ex.trans q516 hE16
                  have q518 := Ex.trans q517 hE24
                  have q519 := Ex.trans q518 hE39
                  have q520 := Ex.trans q519 hE167
                  have q521 := Ex.trans q520 hE209
                  have q522 := Ex.trans q521 hE218
                  have q523 := Below.only q522 hO221 (by omega)
                  have q524 := Ex.trans q523 hE238
                  have q525 := Ex.trans q524 hE247
                  have q526 := Below.only q525 hO250 (by omega)
                  have q527 := Ex.trans q526 hE274
                  have q528 := Ex.trans q527 hE378
                  have q529 := Ex.trans q528 hE497
                  exact ⟨rfl, q529⟩
                · skip
                  refine CW.cond_t rfl (not_f hb514) ?_
                  refine CW.seq ?_
                  refine CW.region ?_
                  refine SeqR.d1 rfl rfl rfl (yl_assign rfl rfl ?_)
                  refine SeqR.done ?_
                  refine tn ?_
                  refine CW.ret ?_
                  refine tr ?_
                  refine rr rfl (.cons rfl .nil) ?_
                  have hM530 : (l_FnExactGoodAct p_aT p_aA) = (false) := by simp only [l_FnExactGoodAct, hb25, hb40, hb275, hb397, hb514, cond_true, cond_false, loopE_done, loopE_ret]
                  rw [hM530]
                  have q531 := Ex.trans (Ex.refl w) hE10
                  have q532 := Ex.trans q531 hE16
                  have q533 := Ex.trans q532 hE24
                  have q534 := Ex.trans q533 hE39
                  have q535 := Ex.trans q534 hE167
                  have q536 := Ex.trans q535 hE209
                  have q537 := Ex.trans q536 hE218
                  have q538 := Below.only q537 hO221 (by omega)
                  have q539 := Ex.trans q538 hE238
                  have q540 := Ex.trans q539 hE247
                  have q541 := Below.only q540 hO250 (by omega)
                  have q542 := Ex.trans q541 hE274
                  have q543 := Ex.trans q542 hE378
                  have q544 := Ex.trans q543 hE497
                  exact ⟨rfl, q544⟩
            · skip
              refine CW.cond_t rfl (not_f hb397) ?_
              refine CW.seq ?_
              refine CW.region ?_
              refine SeqR.d1 rfl rfl rfl (yl_assign rfl rfl ?_)
              refine SeqR.done ?_
              refine tn ?_
              refine CW.ret ?_
              refine tr ?_
              refine rr rfl (.cons rfl .nil) ?_
              have hM545 : (l_FnExactGoodAct p_aT p_aA) = (false) := by simp only [l_FnExactGoodAct, hb25, hb40, hb275, hb397, cond_true, cond_false, loopE_done, loopE_ret]
              rw [hM545]
              have q546 := Ex.trans (Ex.refl w) hE10
              have q547 := Ex.trans q546 hE16
              have q548 := Ex.trans q547 hE24
              have q549 := Ex.trans q548 hE39
              have q550 := Ex.trans q549 hE167
              have q551 := Ex.trans q550 hE209
              have q552 := Ex.trans q551 hE218
              have q553 := Below.only q552 hO221 (by omega)
              have q554 := Ex.trans q553 hE238
              have q555 := Ex.trans q554 hE247
              have q556 := Below.only q555 hO250 (by omega)
              have q557 := Ex.trans q556 hE274
              have q558 := Ex.trans q557 hE378
              exact ⟨rfl, q558⟩
        · skip
          refine CW.cond_t rfl (not_f hb275) ?_
          refine CW.seq ?_
          refine CW.region ?_
          refine SeqR.d1 rfl rfl rfl (yl_assign rfl rfl ?_)
          refine SeqR.done ?_
          refine tn ?_
          refine CW.ret ?_
          refine tr ?_
          refine rr rfl (.cons rfl .nil) ?_
          have hM559 : (l_FnExactGoodAct p_aT p_aA) = (false) := by simp only [l_FnExactGoodAct, hb25, hb40, hb275, cond_true, cond_false, loopE_done, loopE_ret]
          rw [hM559]
          have q560 := Ex.trans (Ex.refl w) hE10
          have q561 := Ex.trans q560 hE16
          have q562 := Ex.trans q561 hE24
          have q563 := Ex.trans q562 hE39
          have q564 := Ex.trans q563 hE167
          have q565 := Ex.trans q564 hE209
          have q566 := Ex.trans q565 hE218
          have q567 := Below.only q566 hO221 (by omega)
          have q568 := Ex.trans q567 hE238
          have q569 := Ex.trans q568 hE247
          have q570 := Below.only q569 hO250 (by omega)
          have q571 := Ex.trans q570 hE274
          exact ⟨rfl, q571⟩
end Go.Proofs.Ytmlfbjlkccnpmaa
