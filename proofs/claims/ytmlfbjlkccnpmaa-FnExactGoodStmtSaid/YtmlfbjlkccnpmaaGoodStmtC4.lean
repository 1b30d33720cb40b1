/- Good Stmt: what each call returns, part 4. -/
import Derived.Test.YtmlfbjlkccnpmaaGoodStmtC3
set_option linter.unusedVariables false
set_option linter.unusedSimpArgs false
namespace Go.Proofs.Ytmlfbjlkccnpmaa
open Go.RowKit Go.X
set_option maxRecDepth 100000 in
set_option maxHeartbeats 2000000 in
theorem c_l_eqStmt {A1 : Option Addr} {c1 : Nat} {A2 : Option Addr} {c2 : Nat} {A3 : Option Addr} {c3 : Nat} {A4 : Option Addr} {c4 : Nat} {w : World} (p_a : DStmt) (p_b : DStmt) (h1 : RdS w (Iv 0 w.heap.size) (RF e_Str) 1 A1 p_a.Act.Old.Vals.length c1 p_a.Act.Old.Vals) (h2 : RdS w (Iv 0 w.heap.size) (RF e_Str) 1 A2 p_a.Act.New.Vals.length c2 p_a.Act.New.Vals) (h3 : RdS w (Iv 0 w.heap.size) (RF e_Str) 1 A3 p_b.Act.Old.Vals.length c3 p_b.Act.Old.Vals) (h4 : RdS w (Iv 0 w.heap.size) (RF e_Str) 1 A4 p_b.Act.New.Vals.length c4 p_b.Act.New.Vals) : Cal Try.prog 26 #[.agg #[.int .i64 (p_a.Kind), .int .i64 (p_a.Act.Kind), .slice A1 p_a.Act.Old.Vals.length c1, .slice A2 p_a.Act.New.Vals.length c2, .string (bs (p_a.Idx)), .string (bs (p_a.Low)), .string (bs (p_a.High))], .agg #[.int .i64 (p_b.Kind), .int .i64 (p_b.Act.Kind), .slice A3 p_b.Act.Old.Vals.length c3, .slice A4 p_b.Act.New.Vals.length c4, .string (bs (p_b.Idx)), .string (bs (p_b.Low)), .string (bs (p_b.High))]] w fun v w' => v = .bool ((l_eqStmt p_a p_b)) ∧ Ex w w' := by
  refine Cal.of (vs := [.agg #[.int .i64 (p_a.Kind), .int .i64 (p_a.Act.Kind), .slice A1 p_a.Act.Old.Vals.length c1, .slice A2 p_a.Act.New.Vals.length c2, .string (bs (p_a.Idx)), .string (bs (p_a.Low)), .string (bs (p_a.High))], .agg #[.int .i64 (p_b.Kind), .int .i64 (p_b.Act.Kind), .slice A3 p_b.Act.Old.Vals.length c3, .slice A4 p_b.Act.New.Vals.length c4, .string (bs (p_b.Idx)), .string (bs (p_b.Low)), .string (bs (p_b.High))]]) Try.func26 rfl Try.ntmps26 rfl ?_
  refine CW.seq ?_
  refine CW.region ?_
  refine SeqR.d1 rfl rfl rfl (yl_box (cs := [.int .i64 (p_a.Kind), .int .i64 (p_a.Act.Kind), .slice A1 p_a.Act.Old.Vals.length c1, .slice A2 p_a.Act.New.Vals.length c2, .string (bs (p_a.Idx)), .string (bs (p_a.Low)), .string (bs (p_a.High))]) rfl rfl rfl ?_)
  intro b5 w6 hs7 hz8 hB9 hE10
  refine SeqR.d1 rfl rfl rfl (yl_box (cs := [.int .i64 (p_b.Kind), .int .i64 (p_b.Act.Kind), .slice A3 p_b.Act.Old.Vals.length c3, .slice A4 p_b.Act.New.Vals.length c4, .string (bs (p_b.Idx)), .string (bs (p_b.Low)), .string (bs (p_b.High))]) rfl rfl rfl ?_)
  intro b11 w12 hs13 hz14 hB15 hE16
  refine SeqR.d1 rfl rfl rfl (yl_assign rfl rfl ?_)
  refine SeqR.done ?_
  refine tn ?_
  refine CW.seq ?_
  refine CW.seq ?_
  refine CW.region ?_
  refine SeqR.d1 rfl rfl rfl (yl_fieldAddr Try.fd49_0 rfl rfl ?_)
  have q17 := Box.ex hB9 hE16
  refine SeqR.d1 rfl rfl rfl (yl_load1 Try.ty3 rfl rfl ((q17.cell 0).trans rfl) ?_)
  refine SeqR.d1 rfl rfl rfl (yl_fieldAddr Try.fd49_0 rfl rfl ?_)
  refine SeqR.d1 rfl rfl rfl (yl_load1 Try.ty3 rfl rfl ((hB15.cell 0).trans rfl) ?_)
  refine SeqR.d1 rfl rfl rfl (yl_neq rfl rfl rfl ?_)
  refine SeqR.done ?_
  refine tn ?_
  refine bcase (decide (p_a.Kind = p_b.Kind)) (fun hb18 => ?_) (fun hb18 => ?_)
  · have hb18p := dec_t hb18
    refine CW.cond_f rfl (not_t hb18) ?_
    refine CW.skip ?_
    refine tn ?_
    refine CW.seq ?_
    refine CW.seq ?_
    refine CW.region ?_
    refine SeqR.d1 rfl rfl rfl (yl_fieldAddr Try.fd49_1 rfl rfl ?_)
    refine SeqR.d1 rfl rfl rfl (yl_loadN (cs := [.int .i64 (p_a.Act.Kind), .slice A1 p_a.Act.Old.Vals.length c1, .slice A2 p_a.Act.New.Vals.length c2]) Try.ty39 rfl rfl (q17.cells (n := 3) rfl) rfl ?_)
    refine SeqR.d1 rfl rfl rfl (yl_fieldAddr Try.fd49_1 rfl rfl ?_)
    refine SeqR.d1 rfl rfl rfl (yl_loadN (cs := [.int .i64 (p_b.Act.Kind), .slice A3 p_b.Act.Old.Vals.length c3, .slice A4 p_b.Act.New.Vals.length c4]) Try.ty39 rfl rfl (hB15.cells (n := 3) rfl) rfl ?_)
    have q19 := RdS.ex good_Str h1 hE10
    have q20 := RdS.ex good_Str q19 hE16
    have q21 := RdS.ex good_Str h2 hE10
    have q22 := RdS.ex good_Str q21 hE16
    have q23 := RdS.ex good_Str h3 hE10
    have q24 := RdS.ex good_Str q23 hE16
    have q25 := RdS.ex good_Str h4 hE10
    have q26 := RdS.ex good_Str q25 hE16
    refine SeqR.d1 rfl rfl rfl (yl_call Try.en21 rfl (opvs_cons rfl (opvs_cons rfl opvs_nil)) (Cal.mono (c_l_eqRowAct p_a.Act p_b.Act (RdS.up q20 good_Str) (RdS.up q22 good_Str) (RdS.up q24 good_Str) (RdS.up q26 good_Str)) ?_))
    rintro v28 w27 ⟨rfl, hE29⟩
    have hE29z := Ex.size hE29
    refine SeqR.d1 rfl rfl rfl (yl_not rfl rfl ?_)
    refine SeqR.done ?_
    refine tn ?_
    refine bcase (l_eqRowAct p_a.Act p_b.Act) (fun hb30 => ?_) (fun hb30 => ?_)
    · skip
      refine CW.cond_f rfl (not_t hb30) ?_
      refine CW.skip ?_
      refine tn ?_
      refine CW.seq ?_
      refine CW.seq ?_
      refine CW.region ?_
      refine SeqR.d1 rfl rfl rfl (yl_fieldAddr Try.fd49_2 rfl rfl ?_)
      have q31 := Box.ex q17 hE29
      refine SeqR.d1 rfl rfl rfl (yl_load1 Try.ty9 rfl rfl ((q31.cell 4).trans rfl) ?_)
      refine SeqR.d1 rfl rfl rfl (yl_fieldAddr Try.fd49_2 rfl rfl ?_)
      have q32 := Box.ex hB15 hE29
      refine SeqR.d1 rfl rfl rfl (yl_load1 Try.ty9 rfl rfl ((q32.cell 4).trans rfl) ?_)
      refine SeqR.d1 rfl rfl rfl (yl_sneq (a := p_a.Idx) (b := p_b.Idx) rfl rfl rfl ?_)
      refine SeqR.done ?_
      refine tn ?_
      refine bcase (p_a.Idx == p_b.Idx) (fun hb33 => ?_) (fun hb33 => ?_)
      · skip
        refine CW.cond_f rfl (not_t hb33) ?_
        refine CW.skip ?_
        refine tn ?_
        refine CW.seq ?_
        refine CW.seq ?_
        refine CW.region ?_
        refine SeqR.d1 rfl rfl rfl (yl_fieldAddr Try.fd49_3 rfl rfl ?_)
        refine SeqR.d1 rfl rfl rfl (yl_load1 Try.ty9 rfl rfl ((q31.cell 5).trans rfl) ?_)
        refine SeqR.d1 rfl rfl rfl (yl_fieldAddr Try.fd49_3 rfl rfl ?_)
        refine SeqR.d1 rfl rfl rfl (yl_load1 Try.ty9 rfl rfl ((q32.cell 5).trans rfl) ?_)
        refine SeqR.d1 rfl rfl rfl (yl_sneq (a := p_a.Low) (b := p_b.Low) rfl rfl rfl ?_)
        refine SeqR.done ?_
        refine tn ?_
        refine bcase (p_a.Low == p_b.Low) (fun hb34 => ?_) (fun hb34 => ?_)
        · skip
          refine CW.cond_f rfl (not_t hb34) ?_
          refine CW.skip ?_
          refine tn ?_
          refine CW.seq ?_
          refine CW.seq ?_
          refine CW.region ?_
          refine SeqR.d1 rfl rfl rfl (yl_fieldAddr Try.fd49_4 rfl rfl ?_)
          refine SeqR.d1 rfl rfl rfl (yl_load1 Try.ty9 rfl rfl ((q31.cell 6).trans rfl) ?_)
          refine SeqR.d1 rfl rfl rfl (yl_fieldAddr Try.fd49_4 rfl rfl ?_)
          refine SeqR.d1 rfl rfl rfl (yl_load1 Try.ty9 rfl rfl ((q32.cell 6).trans rfl) ?_)
          refine SeqR.d1 rfl rfl rfl (yl_sneq (a := p_a.High) (b := p_b.High) rfl rfl rfl ?_)
          refine SeqR.done ?_
          refine tn ?_
          refine bcase (p_a.High == p_b.High) (fun hb35 => ?_) (fun hb35 => ?_)
          · skip
            refine CW.cond_f rfl (not_t hb35) ?_
            refine CW.skip ?_
            refine tn ?_
            refine CW.seq ?_
            refine CW.region ?_
            refine SeqR.d1 rfl rfl rfl (yl_assign rfl rfl ?_)
            refine SeqR.done ?_
            refine tn ?_
            refine CW.ret ?_
            refine rr rfl (.cons rfl .nil) ?_
            have hM36 : (l_eqStmt p_a p_b) = (true) := by simp only [l_eqStmt, hb18, hb30, hb33, hb34, hb35, cond_true, cond_false, loopE_done, loopE_ret]
            rw [hM36]
            have q37 := Ex.trans (Ex.refl w) hE10
            have q38 := Ex.trans q37 hE16
            have q39 := Ex.trans q38 hE29
            exact ⟨rfl, q39⟩
          · skip
            refine CW.cond_t rfl (not_f hb35) ?_
            refine CW.seq ?_
            refine CW.region ?_
            refine SeqR.d1 rfl rfl rfl (yl_assign rfl rfl ?_)
            refine SeqR.done ?_
            refine tn ?_
            refine CW.ret ?_
            refine tr ?_
            refine rr rfl (.cons rfl .nil) ?_
            have hM40 : (l_eqStmt p_a p_b) = (false) := by simp only [l_eqStmt, hb18, hb30, hb33, hb34, hb35, cond_true, cond_false, loopE_done, loopE_ret]
            rw [hM40]
            have q41 := Ex.trans (Ex.refl w) hE10
            have q42 := Ex.trans q41 hE16
            have q43 := Ex.trans q42 hE29
            exact ⟨rfl, q43⟩
        · skip
          refine CW.cond_t rfl (not_f hb34) ?_
          refine CW.seq ?_
          refine CW.region ?_
          refine SeqR.d1 rfl rfl rfl (yl_assign rfl rfl ?_)
          refine SeqR.done ?_
          refine tn ?_
          refine CW.ret ?_
          refine tr ?_
          refine rr rfl (.cons rfl .nil) ?_
          have hM44 : (l_eqStmt p_a p_b) = (false) := by simp only [l_eqStmt, hb18, hb30, hb33, hb34, cond_true, cond_false, loopE_done, loopE_ret]
          rw [hM44]
          have q45 := Ex.trans (Ex.refl w) hE10
          have q46 := Ex.trans q45 hE16
          have q47 := Ex.trans q46 hE29
          exact ⟨rfl, q47⟩
      · skip
        refine CW.cond_t rfl (not_f hb33) ?_
        refine CW.seq ?_
        refine CW.region ?_
        refine SeqR.d1 rfl rfl rfl (yl_assign rfl rfl ?_)
        refine SeqR.done ?_
        refine tn ?_
        refine CW.ret ?_
        refine tr ?_
        refine rr rfl (.cons rfl .nil) ?_
        have hM48 : (l_eqStmt p_a p_b) = (false) := by simp only [l_eqStmt, hb18, hb30, hb33, cond_true, cond_false, loopE_done, loopE_ret]
        rw [hM48]
        have q49 := Ex.trans (Ex.refl w) hE10
        have q50 := Ex.trans q49 hE16
        have q51 := Ex.trans q50 hE29
        exact ⟨rfl, q51⟩
    · skip
      refine CW.cond_t rfl (not_f hb30) ?_
      refine CW.seq ?_
      refine CW.region ?_
      refine SeqR.d1 rfl rfl rfl (yl_assign rfl rfl ?_)
      refine SeqR.done ?_
      refine tn ?_
      refine CW.ret ?_
      refine tr ?_
      refine rr rfl (.cons rfl .nil) ?_
      have hM52 : (l_eqStmt p_a p_b) = (false) := by simp only [l_eqStmt, hb18, hb30, cond_true, cond_false, loopE_done, loopE_ret]
      rw [hM52]
      have q53 := Ex.trans (Ex.refl w) hE10
      have q54 := Ex.trans q53 hE16
      have q55 := Ex.trans q54 hE29
      exact ⟨rfl, q55⟩
  · have hb18p := dec_f hb18
    refine CW.cond_t rfl (not_f hb18) ?_
    refine CW.seq ?_
    refine CW.region ?_
    refine SeqR.d1 rfl rfl rfl (yl_assign rfl rfl ?_)
    refine SeqR.done ?_
    refine tn ?_
    refine CW.ret ?_
    refine tr ?_
    refine rr rfl (.cons rfl .nil) ?_
    have hM56 : (l_eqStmt p_a p_b) = (false) := by simp only [l_eqStmt, hb18, cond_true, cond_false, loopE_done, loopE_ret]
    rw [hM56]
    have q57 := Ex.trans (Ex.refl w) hE10
    have q58 := Ex.trans q57 hE16
    exact ⟨rfl, q58⟩
set_option maxRecDepth 100000 in
set_option maxHeartbeats 2000000 in
theorem c_l_FnExactGoodStmt {A1 : Option Addr} {c1 : Nat} {A2 : Option Addr} {c2 : Nat} {A3 : Option Addr} {c3 : Nat} {A4 : Option Addr} {c4 : Nat} {w : World} (p_aT : DTable) (p_aS : DStmt) (h1 : RdS w (Iv 0 w.heap.size) (RF e_Str) 1 A1 p_aT.Cols.length c1 p_aT.Cols) (h2 : RdS w (Iv 0 w.heap.size) (RF e_Idx) 3 A2 p_aT.Idxs.length c2 p_aT.Idxs) (h3 : RdS w (Iv 0 w.heap.size) (RF e_Str) 1 A3 p_aS.Act.Old.Vals.length c3 p_aS.Act.Old.Vals) (h4 : RdS w (Iv 0 w.heap.size) (RF e_Str) 1 A4 p_aS.Act.New.Vals.length c4 p_aS.Act.New.Vals) (pre0 : wf_Table p_aT) (pre1 : wf_Stmt p_aS) : Cal Try.prog 4 #[.agg #[.string (bs (p_aT.Name)), .slice A1 p_aT.Cols.length c1, .slice A2 p_aT.Idxs.length c2], .agg #[.int .i64 (p_aS.Kind), .int .i64 (p_aS.Act.Kind), .slice A3 p_aS.Act.Old.Vals.length c3, .slice A4 p_aS.Act.New.Vals.length c4, .string (bs (p_aS.Idx)), .string (bs (p_aS.Low)), .string (bs (p_aS.High))]] w fun v w' => v = .bool ((l_FnExactGoodStmt p_aT p_aS)) ∧ Ex w w' := by
  refine Cal.of (vs := [.agg #[.string (bs (p_aT.Name)), .slice A1 p_aT.Cols.length c1, .slice A2 p_aT.Idxs.length c2], .agg #[.int .i64 (p_aS.Kind), .int .i64 (p_aS.Act.Kind), .slice A3 p_aS.Act.Old.Vals.length c3, .slice A4 p_aS.Act.New.Vals.length c4, .string (bs (p_aS.Idx)), .string (bs (p_aS.Low)), .string (bs (p_aS.High))]]) Try.func4 rfl Try.ntmps4 rfl ?_
  refine CW.seq ?_
  refine CW.region ?_
  refine SeqR.d1 rfl rfl rfl (yl_box (cs := [.string (bs (p_aT.Name)), .slice A1 p_aT.Cols.length c1, .slice A2 p_aT.Idxs.length c2]) rfl rfl rfl ?_)
  intro b5 w6 hs7 hz8 hB9 hE10
  refine SeqR.d1 rfl rfl rfl (yl_box (cs := [.int .i64 (p_aS.Kind), .int .i64 (p_aS.Act.Kind), .slice A3 p_aS.Act.Old.Vals.length c3, .slice A4 p_aS.Act.New.Vals.length c4, .string (bs (p_aS.Idx)), .string (bs (p_aS.Low)), .string (bs (p_aS.High))]) rfl rfl rfl ?_)
  intro b11 w12 hs13 hz14 hB15 hE16
  refine SeqR.d1 rfl rfl rfl (yl_assign rfl rfl ?_)
  refine SeqR.done ?_
  refine tn ?_
  refine CW.seq ?_
  refine CW.region ?_
  refine SeqR.d1 rfl rfl rfl (yl_assign rfl rfl ?_)
  refine SeqR.done ?_
  refine tn ?_
  refine CW.seq ?_
  refine CW.region ?_
  have q17 := Box.ex hB9 hE16
  refine SeqR.d1 rfl rfl rfl (yl_loadN (cs := [.string (bs (p_aT.Name)), .slice A1 p_aT.Cols.length c1, .slice A2 p_aT.Idxs.length c2]) Try.ty25 rfl rfl (q17.cells (n := 3) rfl) rfl ?_)
  refine SeqR.d1 rfl rfl rfl (yl_move rfl rfl ?_)
  have q18 := RdS.ex good_Str h1 hE10
  have q19 := RdS.ex good_Str q18 hE16
  have q20 := RdS.ex good_Idx h2 hE10
  have q21 := RdS.ex good_Idx q20 hE16
  refine SeqR.d1 rfl rfl rfl (yl_call Try.en14 rfl (opvs_cons rfl (opvs_cons rfl opvs_nil)) (Cal.mono (c_l_szTable p_aT 1048576 (RdS.up q19 good_Str) (RdS.up q21 good_Idx)) ?_))
  rintro v23 w22 ⟨rfl, hE24⟩
  have hE24z := Ex.size hE24
  refine SeqR.d1 rfl rfl rfl (yl_assign rfl rfl ?_)
  refine SeqR.done ?_
  refine tn ?_
  refine CW.seq ?_
  refine CW.seq ?_
  refine CW.region ?_
  refine SeqR.d1 rfl rfl rfl (yl_move rfl rfl ?_)
  refine SeqR.d1 rfl rfl rfl (yl_lss rfl rfl rfl ?_)
  refine SeqR.done ?_
  refine tn ?_
  refine bcase (decide ((l_szTable p_aT 1048576) < 0)) (fun hb25 => ?_) (fun hb25 => ?_)
  · have hb25p := dec_t hb25
    refine CW.cond_t rfl hb25 ?_
    refine CW.seq ?_
    refine CW.region ?_
    refine SeqR.d1 rfl rfl rfl (yl_assign rfl rfl ?_)
    refine SeqR.done ?_
    refine tn ?_
    refine CW.ret ?_
    refine tr ?_
    refine rr rfl (.cons rfl .nil) ?_
    have hM26 : (l_FnExactGoodStmt p_aT p_aS) = (true) := by simp only [l_FnExactGoodStmt, hb25, cond_true, cond_false, loopE_done, loopE_ret]
    rw [hM26]
    have q27 := Ex.trans (Ex.refl w) hE10
    have q28 := Ex.trans q27 hE16
    have q29 := Ex.trans q28 hE24
    exact ⟨rfl, q29⟩
  · have hb25p := dec_f hb25
    refine CW.cond_f rfl hb25 ?_
    refine CW.skip ?_
    refine tn ?_
    refine CW.seq ?_
    refine CW.region ?_
    have q30 := Box.ex hB15 hE24
    refine SeqR.d1 rfl rfl rfl (yl_loadN (cs := [.int .i64 (p_aS.Kind), .int .i64 (p_aS.Act.Kind), .slice A3 p_aS.Act.Old.Vals.length c3, .slice A4 p_aS.Act.New.Vals.length c4, .string (bs (p_aS.Idx)), .string (bs (p_aS.Low)), .string (bs (p_aS.High))]) Try.ty45 rfl rfl (q30.cells (n := 7) rfl) rfl ?_)
    refine SeqR.d1 rfl rfl rfl (yl_move rfl rfl ?_)
    have q31 := RdS.ex good_Str h3 hE10
    have q32 := RdS.ex good_Str q31 hE16
    have q33 := RdS.ex good_Str q32 hE24
    have q34 := RdS.ex good_Str h4 hE10
    have q35 := RdS.ex good_Str q34 hE16
    have q36 := RdS.ex good_Str q35 hE24
    refine SeqR.d1 rfl rfl rfl (yl_call Try.en22 rfl (opvs_cons rfl (opvs_cons rfl opvs_nil)) (Cal.mono (c_l_szStmt p_aS (l_szTable p_aT 1048576) (RdS.up q33 good_Str) (RdS.up q36 good_Str)) ?_))
    rintro v38 w37 ⟨rfl, hE39⟩
    have hE39z := Ex.size hE39
    refine SeqR.d1 rfl rfl rfl (yl_assign rfl rfl ?_)
    refine SeqR.done ?_
    refine tn ?_
    refine CW.seq ?_
    refine CW.seq ?_
    refine CW.region ?_
    refine SeqR.d1 rfl rfl rfl (yl_move rfl rfl ?_)
    refine SeqR.d1 rfl rfl rfl (yl_lss rfl rfl rfl ?_)
    refine SeqR.done ?_
    refine tn ?_
    refine bcase (decide ((l_szStmt p_aS (l_szTable p_aT 1048576)) < 0)) (fun hb40 => ?_) (fun hb40 => ?_)
    · have hb40p := dec_t hb40
      refine CW.cond_t rfl hb40 ?_
      refine CW.seq ?_
      refine CW.region ?_
      refine SeqR.d1 rfl rfl rfl (yl_assign rfl rfl ?_)
      refine SeqR.done ?_
      refine tn ?_
      refine CW.ret ?_
      refine tr ?_
      refine rr rfl (.cons rfl .nil) ?_
      have hM41 : (l_FnExactGoodStmt p_aT p_aS) = (true) := by simp only [l_FnExactGoodStmt, hb25, hb40, cond_true, cond_false, loopE_done, loopE_ret]
      rw [hM41]
      have q42 := Ex.trans (Ex.refl w) hE10
      have q43 := Ex.trans q42 hE16
      have q44 := Ex.trans q43 hE24
      have q45 := Ex.trans q44 hE39
      exact ⟨rfl, q45⟩
    · have hb40p := dec_f hb40
      refine CW.cond_f rfl hb40 ?_
      refine CW.skip ?_
      refine tn ?_
      refine CW.seq ?_
      have q46 := Box.ex q17 hE24
      have q47 := Box.ex q46 hE39
      have q48 := RdS.ex good_Str q19 hE24
      have q49 := RdS.ex good_Str q48 hE39
      have q50 := RdS.ex good_Idx q21 hE24
      have q51 := RdS.ex good_Idx q50 hE39
      have q55 := Box.ex q30 hE39
      have q56 := RdS.ex good_Str q33 hE39
      have q57 := RdS.ex good_Str q36 hE39
      refine CW.drawsI 6 (vgetI [DetI (.agg #[.string (bs (p_aT.Name)), .slice A1 p_aT.Cols.length c1, .slice A2 p_aT.Idxs.length c2]), fun lo hi v w => ∃ A53 c53 lo53 hi53 A54 c54 lo54 hi54, v = .agg #[.string (bs (p_aT.Name)), .slice A53 p_aT.Cols.length c53, .slice A54 p_aT.Idxs.length c54] ∧ OwnL w lo53 hi53 9 1 (RF e_Str) A53 p_aT.Cols.length c53 p_aT.Cols ∧ OwnL w lo54 hi54 132 3 (RF e_Idx) A54 p_aT.Idxs.length c54 p_aT.Idxs ∧ (lo ≤ lo53 ∧ lo53 ≤ hi53 ∧ hi53 ≤ hi) ∧ (lo ≤ lo54 ∧ lo54 ≤ hi54 ∧ hi54 ≤ hi) ∧ (hi53 ≤ lo54 ∨ hi54 ≤ lo53), DetI (.agg #[.int .i64 (p_aS.Kind), .int .i64 (p_aS.Act.Kind), .slice A3 p_aS.Act.Old.Vals.length c3, .slice A4 p_aS.Act.New.Vals.length c4, .string (bs (p_aS.Idx)), .string (bs (p_aS.Low)), .string (bs (p_aS.High))]), fun lo hi v w => ∃ A59 c59 lo59 hi59 A60 c60 lo60 hi60, v = .agg #[.int .i64 (p_aS.Kind), .int .i64 (p_aS.Act.Kind), .slice A59 p_aS.Act.Old.Vals.length c59, .slice A60 p_aS.Act.New.Vals.length c60, .string (bs (p_aS.Idx)), .string (bs (p_aS.Low)), .string (bs (p_aS.High))] ∧ OwnL w lo59 hi59 9 1 (RF e_Str) A59 p_aS.Act.Old.Vals.length c59 p_aS.Act.Old.Vals ∧ OwnL w lo60 hi60 9 1 (RF e_Str) A60 p_aS.Act.New.Vals.length c60 p_aS.Act.New.Vals ∧ (lo ≤ lo59 ∧ lo59 ≤ hi59 ∧ hi59 ≤ hi) ∧ (lo ≤ lo60 ∧ lo60 ≤ hi60 ∧ hi60 ≤ hi) ∧ (hi59 ≤ lo60 ∨ hi60 ≤ lo59), DetI (.bool ((s_GoodStmt p_aT p_aS))), DetI (.bool ((s_GoodStmt p_aT p_aS)))]) Try.follows rfl rfl rfl rfl rfl rfl (vgetI_stable ⟨StableI.det _, (fun _ _ _ _ _ ⟨A53, c53, lo53, hi53, A54, c54, lo54, hi54, hv, h53, h54, hr0, hr1, hr2⟩ e => ⟨A53, c53, lo53, hi53, A54, c54, lo54, hi54, hv, OwnL.ex good_Str h53 e, OwnL.ex good_Idx h54 e, hr0, hr1, hr2⟩), StableI.det _, (fun _ _ _ _ _ ⟨A59, c59, lo59, hi59, A60, c60, lo60, hi60, hv, h59, h60, hr0, hr1, hr2⟩ e => ⟨A59, c59, lo59, hi59, A60, c60, lo60, hi60, hv, OwnL.ex good_Str h59 e, OwnL.ex good_Str h60 e, hr0, hr1, hr2⟩), StableI.det _, StableI.det _, trivial⟩) ⟨?_, ?_, ?_, ?_, ?_, ?_, trivial⟩ ?_
      · intro L62 w63 hi64
        have hE65 := hi64.ex
        have hE65z := Ex.size hE65
        have hx66 := hi64.old 2 _ rfl rfl
        have q67 := Box.ex q47 hE65
        exact OpR.op' rfl (Yl.sameI (yl_loadN (cs := [.string (bs (p_aT.Name)), .slice A1 p_aT.Cols.length c1, .slice A2 p_aT.Idxs.length c2]) Try.ty25 rfl hx66 (q67.cells (n := 3) rfl) rfl ⟨fun _ _ => rfl, rfl⟩))
      · intro L68 w69 hi70
        have hE71 := hi70.ex
        have hE71z := Ex.size hE71
        obtain ⟨_, _, _, hx72, -, -, -, rfl⟩ := hi70.dep 0 20 rfl rfl
        have q73 := RdS.ex good_Str q49 hE71
        have q74 := RdS.ex good_Idx q51 hE71
        refine OpR.op' rfl (yl_call Try.en17 rfl (opvs_cons hx72 opvs_nil) (Cal.mono (c_l_toTable p_aT (RdS.up q73 good_Str) (RdS.up q74 good_Idx) ((szok_Table pre0 (by decide) (dec_f hb25)).1)) ?_))
        rintro v78 w75 ⟨A76, c76, lo76, hi76, A77, c77, lo77, hi77, rfl, h76, h77, hrn80, hrn81, hrn82, hE79⟩
        exact ⟨⟨A76, c76, lo76, hi76, A77, c77, lo77, hi77, rfl, h76, h77, hrn80, hrn81, hrn82⟩, hE79⟩
      · intro L83 w84 hi85
        have hE86 := hi85.ex
        have hE86z := Ex.size hE86
        have hx87 := hi85.old 3 _ rfl rfl
        have q88 := Box.ex q55 hE86
        exact OpR.op' rfl (Yl.sameI (yl_loadN (cs := [.int .i64 (p_aS.Kind), .int .i64 (p_aS.Act.Kind), .slice A3 p_aS.Act.Old.Vals.length c3, .slice A4 p_aS.Act.New.Vals.length c4, .string (bs (p_aS.Idx)), .string (bs (p_aS.Low)), .string (bs (p_aS.High))]) Try.ty45 rfl hx87 (q88.cells (n := 7) rfl) rfl ⟨fun _ _ => rfl, rfl⟩))
      · intro L89 w90 hi91
        have hE92 := hi91.ex
        have hE92z := Ex.size hE92
        obtain ⟨_, _, _, hx93, -, -, -, rfl⟩ := hi91.dep 2 22 rfl rfl
        have q94 := RdS.ex good_Str q56 hE92
        have q95 := RdS.ex good_Str q57 hE92
        refine OpR.op' rfl (yl_call Try.en24 rfl (opvs_cons hx93 opvs_nil) (Cal.mono (c_l_toStmt p_aS (RdS.up q94 good_Str) (RdS.up q95 good_Str) ((szok_Stmt pre1 (szok_Table pre0 (by decide) (dec_f hb25)).2 (dec_f hb40)).1)) ?_))
        rintro v99 w96 ⟨A97, c97, lo97, hi97, A98, c98, lo98, hi98, rfl, h97, h98, hrn101, hrn102, hrn103, hE100⟩
        exact ⟨⟨A97, c97, lo97, hi97, A98, c98, lo98, hi98, rfl, h97, h98, hrn101, hrn102, hrn103⟩, hE100⟩
      · intro L104 w105 hi106
        have hE107 := hi106.ex
        have hE107z := Ex.size hE107
        obtain ⟨lo109, hh110, _, hx108, hr111, hr112, hr113, A53_114, c53_115, lo53_116, hi53_117, A54_118, c54_119, lo54_120, hi54_121, rfl, h122, h123, hrn124, hrn125, hrn126⟩ := hi106.dep 1 21 rfl rfl
        obtain ⟨lo128, hh129, _, hx127, hr130, hr131, hr132, A59_133, c59_134, lo59_135, hi59_136, A60_137, c60_138, lo60_139, hi60_140, rfl, h141, h142, hrn143, hrn144, hrn145⟩ := hi106.dep 3 23 rfl rfl
        have q146 := OwnL.rd good_Str h122
        have q147 := OwnL.rd good_Idx h123
        have q148 := OwnL.rd good_Str h141
        have q149 := OwnL.rd good_Str h142
        refine OpR.op' rfl (yl_call Try.en23 rfl (opvs_cons hx108 (opvs_cons hx127 opvs_nil)) (Cal.mono (c_s_GoodStmt p_aT p_aS (RdS.up q146 good_Str) (RdS.up q147 good_Idx) (RdS.up q148 good_Str) (RdS.up q149 good_Str) ((szok_Table pre0 (by decide) (dec_f hb25)).1) ((szok_Stmt pre1 (szok_Table pre0 (by decide) (dec_f hb25)).2 (dec_f hb40)).1)) ?_))
        rintro v151 w150 ⟨rfl, hE152⟩
        exact ⟨rfl, hE152⟩
      · intro L153 w154 hi155
        have hE156 := hi155.ex
        have hE156z := Ex.size hE156
        obtain ⟨_, _, _, hx157, -, -, -, rfl⟩ := hi155.dep 4 24 rfl rfl
        exact OpR.op' rfl (Yl.sameI (yl_assign rfl hx157 ⟨fun _ _ => rfl, rfl⟩))
      · intro fl161 fh162 L158 w159 hp160
        have hE163 := hp160.ex
        have hE163z := Ex.size hE163
        have hx164 := hp160.old 2 _ rfl rfl
        have hx165 := hp160.old 3 _ rfl rfl
        have hr167 := hp160.rng 1 rfl
        obtain ⟨_, hx166, A53_168, c53_169, lo53_170, hi53_171, A54_172, c54_173, lo54_174, hi54_175, rfl, h176, h177, hrn178, hrn179, hrn180⟩ := hp160.new 1 21 rfl rfl
        have hr182 := hp160.rng 3 rfl
        have hsp183 := hp160.sep 1 3 rfl rfl rfl
        obtain ⟨_, hx181, A59_184, c59_185, lo59_186, hi59_187, A60_188, c60_189, lo60_190, hi60_191, rfl, h192, h193, hrn194, hrn195, hrn196⟩ := hp160.new 3 23 rfl rfl
        obtain ⟨_, hx197, rfl⟩ := hp160.new 5 6 rfl rfl
        refine SeqR.done ?_
        refine tn ?_
        refine CW.sub (Sub.cons (d := 2) hx164 (Sub.cons (d := 3) hx165 (Sub.cons (d := 6) hx197 (Sub.nil _)))) ?_
        refine CW.seq ?_
        refine CW.region ?_
        have q198 := Box.ex q47 hE163
        refine SeqR.d1 rfl rfl rfl (yl_loadN (cs := [.string (bs (p_aT.Name)), .slice A1 p_aT.Cols.length c1, .slice A2 p_aT.Idxs.length c2]) Try.ty25 rfl rfl (q198.cells (n := 3) rfl) rfl ?_)
        have q199 := RdS.ex good_Str q49 hE163
        have q200 := RdS.ex good_Idx q51 hE163
        refine SeqR.d1 rfl rfl rfl (yl_call Try.en17 rfl (opvs_cons rfl opvs_nil) (Cal.mono (c_l_toTable p_aT (RdS.up q199 good_Str) (RdS.up q200 good_Idx) ((szok_Table pre0 (by decide) (dec_f hb25)).1)) ?_))
        rintro v204 w201 ⟨A202, c202, lo202, hi202, A203, c203, lo203, hi203, rfl, h202, h203, hrn206, hrn207, hrn208, hE205⟩
        have hE205z := Ex.size hE205
        refine SeqR.d1 rfl rfl rfl (yl_alloc Try.ty35 (cs := [.string (bs (([] : Str))), .slice none 0 0, .slice none 0 0]) rfl rfl ?_)
        intro b209 w210 hs211 hz212 hB213 hE214
        refine SeqR.u rfl rfl (yl_store (vs := [.string (bs (p_aT.Name)), .slice A202 p_aT.Cols.length c202, .slice A203 p_aT.Idxs.length c203]) Try.ty35 rfl rfl rfl rfl rfl rfl hB213 (Nat.le_of_ble_eq_true rfl) ?_)
        intro w215 hB216 hO217
        have hB216 : Box w215 b209 35 [.string (bs (p_aT.Name)), .slice A202 p_aT.Cols.length c202, .slice A203 p_aT.Idxs.length c203] := hB216
        have hO217z := hO217.size
        refine SeqR.done ?_
        refine tn ?_
        refine CW.seq ?_
        refine CW.region ?_
        have q218 := Box.ex q55 hE163
        have q219 := Box.ex q218 hE205
        have q220 := Box.ex q219 hE214
        have q221 := Box.only q220 hO217 (by omega)
        refine SeqR.d1 rfl rfl rfl (yl_loadN (cs := [.int .i64 (p_aS.Kind), .int .i64 (p_aS.Act.Kind), .slice A3 p_aS.Act.Old.Vals.length c3, .slice A4 p_aS.Act.New.Vals.length c4, .string (bs (p_aS.Idx)), .string (bs (p_aS.Low)), .string (bs (p_aS.High))]) Try.ty45 rfl rfl (q221.cells (n := 7) rfl) rfl ?_)
        have q222 := RdS.ex good_Str q56 hE163
        have q223 := RdS.ex good_Str q222 hE205
        have q224 := RdS.ex good_Str q223 hE214
        have q225 := RdS.only good_Str q224 hO217 (by simp only [Iv]; omega)
        have q226 := RdS.ex good_Str q57 hE163
        have q227 := RdS.ex good_Str q226 hE205
        have q228 := RdS.ex good_Str q227 hE214
        have q229 := RdS.only good_Str q228 hO217 (by simp only [Iv]; omega)
        refine SeqR.d1 rfl rfl rfl (yl_call Try.en24 rfl (opvs_cons rfl opvs_nil) (Cal.mono (c_l_toStmt p_aS (RdS.up q225 good_Str) (RdS.up q229 good_Str) ((szok_Stmt pre1 (szok_Table pre0 (by decide) (dec_f hb25)).2 (dec_f hb40)).1)) ?_))
        rintro v233 w230 ⟨A231, c231, lo231, hi231, A232, c232, lo232, hi232, rfl, h231, h232, hrn235, hrn236, hrn237, hE234⟩
        have hE234z := Ex.size hE234
        refine SeqR.d1 rfl rfl rfl (yl_alloc Try.ty49 (cs := [.int .i64 (0), .int .i64 (0), .slice none 0 0, .slice none 0 0, .string (bs (([] : Str))), .string (bs (([] : Str))), .string (bs (([] : Str)))]) rfl rfl ?_)
        intro b238 w239 hs240 hz241 hB242 hE243
        refine SeqR.u rfl rfl (yl_store (vs := [.int .i64 (p_aS.Kind), .int .i64 (p_aS.Act.Kind), .slice A231 p_aS.Act.Old.Vals.length c231, .slice A232 p_aS.Act.New.Vals.length c232, .string (bs (p_aS.Idx)), .string (bs (p_aS.Low)), .string (bs (p_aS.High))]) Try.ty49 rfl rfl rfl rfl rfl rfl hB242 (Nat.le_of_ble_eq_true rfl) ?_)
        intro w244 hB245 hO246
        have hB245 : Box w244 b238 49 [.int .i64 (p_aS.Kind), .int .i64 (p_aS.Act.Kind), .slice A231 p_aS.Act.Old.Vals.length c231, .slice A232 p_aS.Act.New.Vals.length c232, .string (bs (p_aS.Idx)), .string (bs (p_aS.Low)), .string (bs (p_aS.High))] := hB245
        have hO246z := hO246.size
        refine SeqR.done ?_
        refine tn ?_
        refine CW.seq ?_
        refine CW.region ?_
        have q247 := Box.ex hB216 hE234
        have q248 := Box.ex q247 hE243
        have q249 := Box.only q248 hO246 (by omega)
        refine SeqR.d1 rfl rfl rfl (yl_loadN (cs := [.string (bs (p_aT.Name)), .slice A202 p_aT.Cols.length c202, .slice A203 p_aT.Idxs.length c203]) Try.ty35 rfl rfl (q249.cells (n := 3) rfl) rfl ?_)
        refine SeqR.d1 rfl rfl rfl (yl_loadN (cs := [.int .i64 (p_aS.Kind), .int .i64 (p_aS.Act.Kind), .slice A231 p_aS.Act.Old.Vals.length c231, .slice A232 p_aS.Act.New.Vals.length c232, .string (bs (p_aS.Idx)), .string (bs (p_aS.Low)), .string (bs (p_aS.High))]) Try.ty49 rfl rfl (hB245.cells (n := 7) rfl) rfl ?_)
        have q251 := OwnL.ex good_Str h202 hE214
        have q252 := OwnL.only good_Str q251 hO217 (by omega)
        have q253 := OwnL.ex good_Str q252 hE234
        have q254 := OwnL.ex good_Str q253 hE243
        have q255 := OwnL.only good_Str q254 hO246 (by omega)
        have q250 := OwnL.rd good_Str q255
        have q257 := OwnL.ex good_Idx h203 hE214
        have q258 := OwnL.only good_Idx q257 hO217 (by omega)
        have q259 := OwnL.ex good_Idx q258 hE234
        have q260 := OwnL.ex good_Idx q259 hE243
        have q261 := OwnL.only good_Idx q260 hO246 (by omega)
        have q256 := OwnL.rd good_Idx q261
        have q263 := OwnL.ex good_Str h231 hE243
        have q264 := OwnL.only good_Str q263 hO246 (by omega)
        have q262 := OwnL.rd good_Str q264
        have q266 := OwnL.ex good_Str h232 hE243
        have q267 := OwnL.only good_Str q266 hO246 (by omega)
        have q265 := OwnL.rd good_Str q267
        refine SeqR.d1 rfl rfl rfl (yl_call Try.en25 rfl (opvs_cons rfl (opvs_cons rfl opvs_nil)) (Cal.mono (c_i_GoodStmt p_aT p_aS (RdS.up q250 good_Str) (RdS.up q256 good_Idx) (RdS.up q262 good_Str) (RdS.up q265 good_Str) ((szok_Table pre0 (by decide) (dec_f hb25)).1) ((szok_Stmt pre1 (szok_Table pre0 (by decide) (dec_f hb25)).2 (dec_f hb40)).1)) ?_))
        rintro v269 w268 ⟨rfl, hE270⟩
        have hE270z := Ex.size hE270
        refine SeqR.d1 rfl rfl rfl (yl_assign rfl rfl ?_)
        refine SeqR.done ?_
        refine tn ?_
        refine CW.seq ?_
        refine CW.seq ?_
        refine CW.region ?_
        refine SeqR.d1 rfl rfl rfl (yl_move rfl rfl ?_)
        refine SeqR.d1 rfl rfl rfl (yl_move rfl rfl ?_)
        refine SeqR.d1 rfl rfl rfl (yl_bneq Try.un4 rfl rfl rfl ?_)
        refine SeqR.done ?_
        refine tn ?_
        refine bcase ((i_GoodStmt p_aT p_aS) == (s_GoodStmt p_aT p_aS)) (fun hb271 => ?_) (fun hb271 => ?_)
        · skip
          refine CW.cond_f rfl (not_t hb271) ?_
          refine CW.skip ?_
          refine tn ?_
          refine CW.seq ?_
          refine CW.seq ?_
          have q272 := Box.ex q249 hE270
          have q273 := Box.ex q198 hE205
          have q274 := Box.ex q273 hE214
          have q275 := Box.only q274 hO217 (by omega)
          have q276 := Box.ex q275 hE234
          have q277 := Box.ex q276 hE243
          have q278 := Box.only q277 hO246 (by omega)
          have q279 := Box.ex q278 hE270
          have q280 := RdS.ex good_Str q199 hE205
          have q281 := RdS.ex good_Str q280 hE214
          have q282 := RdS.only good_Str q281 hO217 (by simp only [Iv]; omega)
          have q283 := RdS.ex good_Str q282 hE234
          have q284 := RdS.ex good_Str q283 hE243
          have q285 := RdS.only good_Str q284 hO246 (by simp only [Iv]; omega)
          have q286 := RdS.ex good_Str q285 hE270
          have q287 := RdS.ex good_Idx q200 hE205
          have q288 := RdS.ex good_Idx q287 hE214
          have q289 := RdS.only good_Idx q288 hO217 (by simp only [Iv]; omega)
          have q290 := RdS.ex good_Idx q289 hE234
          have q291 := RdS.ex good_Idx q290 hE243
          have q292 := RdS.only good_Idx q291 hO246 (by simp only [Iv]; omega)
          have q293 := RdS.ex good_Idx q292 hE270
          have q298 := OwnL.ex good_Str q255 hE270
          have q297 := OwnL.rd good_Str q298
          have q300 := OwnL.ex good_Idx q261 hE270
          have q299 := OwnL.rd good_Idx q300
          refine CW.drawsI 5 (vgetI [DetI (.agg #[.string (bs (p_aT.Name)), .slice A202 p_aT.Cols.length c202, .slice A203 p_aT.Idxs.length c203]), DetI (.agg #[.string (bs (p_aT.Name)), .slice A1 p_aT.Cols.length c1, .slice A2 p_aT.Idxs.length c2]), fun lo hi v w => ∃ A295 c295 lo295 hi295 A296 c296 lo296 hi296, v = .agg #[.string (bs (p_aT.Name)), .slice A295 p_aT.Cols.length c295, .slice A296 p_aT.Idxs.length c296] ∧ OwnL w lo295 hi295 9 1 (RF e_Str) A295 p_aT.Cols.length c295 p_aT.Cols ∧ OwnL w lo296 hi296 132 3 (RF e_Idx) A296 p_aT.Idxs.length c296 p_aT.Idxs ∧ (lo ≤ lo295 ∧ lo295 ≤ hi295 ∧ hi295 ≤ hi) ∧ (lo ≤ lo296 ∧ lo296 ≤ hi296 ∧ hi296 ≤ hi) ∧ (hi295 ≤ lo296 ∨ hi296 ≤ lo295), DetI (.bool ((l_eqTable p_aT p_aT))), DetI (.bool (!(l_eqTable p_aT p_aT)))]) Try.follows rfl rfl rfl rfl rfl rfl (vgetI_stable ⟨StableI.det _, StableI.det _, (fun _ _ _ _ _ ⟨A295, c295, lo295, hi295, A296, c296, lo296, hi296, hv, h295, h296, hr0, hr1, hr2⟩ e => ⟨A295, c295, lo295, hi295, A296, c296, lo296, hi296, hv, OwnL.ex good_Str h295 e, OwnL.ex good_Idx h296 e, hr0, hr1, hr2⟩), StableI.det _, StableI.det _, trivial⟩) ⟨?_, ?_, ?_, ?_, ?_, trivial⟩ ?_
          · intro L302 w303 hi304
            have hE305 := hi304.ex
            have hE305z := Ex.size hE305
            have hx306 := hi304.old 7 _ rfl rfl
            have q307 := Box.ex q272 hE305
            exact OpR.op' rfl (Yl.sameI (yl_loadN (cs := [.string (bs (p_aT.Name)), .slice A202 p_aT.Cols.length c202, .slice A203 p_aT.Idxs.length c203]) Try.ty35 rfl hx306 (q307.cells (n := 3) rfl) rfl ⟨fun _ _ => rfl, rfl⟩))
          · intro L308 w309 hi310
            have hE311 := hi310.ex
            have hE311z := Ex.size hE311
            have hx312 := hi310.old 2 _ rfl rfl
            have q313 := Box.ex q279 hE311
            exact OpR.op' rfl (Yl.sameI (yl_loadN (cs := [.string (bs (p_aT.Name)), .slice A1 p_aT.Cols.length c1, .slice A2 p_aT.Idxs.length c2]) Try.ty25 rfl hx312 (q313.cells (n := 3) rfl) rfl ⟨fun _ _ => rfl, rfl⟩))
          · intro L314 w315 hi316
            have hE317 := hi316.ex
            have hE317z := Ex.size hE317
            obtain ⟨_, _, _, hx318, -, -, -, rfl⟩ := hi316.dep 1 36 rfl rfl
            have q319 := RdS.ex good_Str q286 hE317
            have q320 := RdS.ex good_Idx q293 hE317
            refine OpR.op' rfl (yl_call Try.en17 rfl (opvs_cons hx318 opvs_nil) (Cal.mono (c_l_toTable p_aT (RdS.up q319 good_Str) (RdS.up q320 good_Idx) ((szok_Table pre0 (by decide) (dec_f hb25)).1)) ?_))
            rintro v324 w321 ⟨A322, c322, lo322, hi322, A323, c323, lo323, hi323, rfl, h322, h323, hrn326, hrn327, hrn328, hE325⟩
            exact ⟨⟨A322, c322, lo322, hi322, A323, c323, lo323, hi323, rfl, h322, h323, hrn326, hrn327, hrn328⟩, hE325⟩
          · intro L329 w330 hi331
            have hE332 := hi331.ex
            have hE332z := Ex.size hE332
            obtain ⟨_, _, _, hx333, -, -, -, rfl⟩ := hi331.dep 0 35 rfl rfl
            obtain ⟨lo335, hh336, _, hx334, hr337, hr338, hr339, A295_340, c295_341, lo295_342, hi295_343, A296_344, c296_345, lo296_346, hi296_347, rfl, h348, h349, hrn350, hrn351, hrn352⟩ := hi331.dep 2 37 rfl rfl
            have q354 := OwnL.ex good_Str q298 hE332
            have q353 := OwnL.rd good_Str q354
            have q356 := OwnL.ex good_Idx q300 hE332
            have q355 := OwnL.rd good_Idx q356
            have q357 := OwnL.rd good_Str h348
            have q358 := OwnL.rd good_Idx h349
            refine OpR.op' rfl (yl_call Try.en20 rfl (opvs_cons hx333 (opvs_cons hx334 opvs_nil)) (Cal.mono (c_l_eqTable p_aT p_aT (RdS.up q353 good_Str) (RdS.up q355 good_Idx) (RdS.up q357 good_Str) (RdS.up q358 good_Idx)) ?_))
            rintro v360 w359 ⟨rfl, hE361⟩
            exact ⟨rfl, hE361⟩
          · intro L362 w363 hi364
            have hE365 := hi364.ex
            have hE365z := Ex.size hE365
            obtain ⟨_, _, _, hx366, -, -, -, rfl⟩ := hi364.dep 3 38 rfl rfl
            exact OpR.op' rfl (Yl.sameI (yl_not rfl hx366 ⟨fun _ _ => rfl, rfl⟩))
          · intro fl370 fh371 L367 w368 hp369
            have hE372 := hp369.ex
            have hE372z := Ex.size hE372
            have hx373 := hp369.old 3 _ rfl rfl
            have hx374 := hp369.old 8 _ rfl rfl
            have hr376 := hp369.rng 2 rfl
            obtain ⟨_, hx375, A295_377, c295_378, lo295_379, hi295_380, A296_381, c296_382, lo296_383, hi296_384, rfl, h385, h386, hrn387, hrn388, hrn389⟩ := hp369.new 2 37 rfl rfl
            obtain ⟨_, hx390, rfl⟩ := hp369.new 4 39 rfl rfl
            refine SeqR.done ?_
            refine tn ?_
            refine CW.sub (Sub.cons (d := 3) hx373 (Sub.cons (d := 8) hx374 (Sub.cons (d := 39) hx390 (Sub.nil _)))) ?_
            refine bcase (l_eqTable p_aT p_aT) (fun hb391 => ?_) (fun hb391 => ?_)
            · skip
              refine CW.cond_f rfl (not_t hb391) ?_
              refine CW.skip ?_
              refine tn ?_
              refine CW.seq ?_
              refine CW.seq ?_
              have q392 := Box.ex hB245 hE270
              have q393 := Box.ex q392 hE372
              have q394 := Box.ex q221 hE234
              have q395 := Box.ex q394 hE243
              have q396 := Box.only q395 hO246 (by omega)
              have q397 := Box.ex q396 hE270
              have q398 := Box.ex q397 hE372
              have q399 := RdS.ex good_Str q225 hE234
              have q400 := RdS.ex good_Str q399 hE243
              have q401 := RdS.only good_Str q400 hO246 (by simp only [Iv]; omega)
              have q402 := RdS.ex good_Str q401 hE270
              have q403 := RdS.ex good_Str q402 hE372
              have q404 := RdS.ex good_Str q229 hE234
              have q405 := RdS.ex good_Str q404 hE243
              have q406 := RdS.only good_Str q405 hO246 (by simp only [Iv]; omega)
              have q407 := RdS.ex good_Str q406 hE270
              have q408 := RdS.ex good_Str q407 hE372
              have q413 := OwnL.ex good_Str q264 hE270
              have q414 := OwnL.ex good_Str q413 hE372
              have q412 := OwnL.rd good_Str q414
              have q416 := OwnL.ex good_Str q267 hE270
              have q417 := OwnL.ex good_Str q416 hE372
              have q415 := OwnL.rd good_Str q417
              refine CW.drawsI 5 (vgetI [DetI (.agg #[.int .i64 (p_aS.Kind), .int .i64 (p_aS.Act.Kind), .slice A231 p_aS.Act.Old.Vals.length c231, .slice A232 p_aS.Act.New.Vals.length c232, .string (bs (p_aS.Idx)), .string (bs (p_aS.Low)), .string (bs (p_aS.High))]), DetI (.agg #[.int .i64 (p_aS.Kind), .int .i64 (p_aS.Act.Kind), .slice A3 p_aS.Act.Old.Vals.length c3, .slice A4 p_aS.Act.New.Vals.length c4, .string (bs (p_aS.Idx)), .string (bs (p_aS.Low)), .string (bs (p_aS.High))]), fun lo hi v w => ∃ A410 c410 lo410 hi410 A411 c411 lo411 hi411, v = .agg #[.int .i64 (p_aS.Kind), .int .i64 (p_aS.Act.Kind), .slice A410 p_aS.Act.Old.Vals.length c410, .slice A411 p_aS.Act.New.Vals.length c411, .string (bs (p_aS.Idx)), .string (bs (p_aS.Low)), .string (bs (p_aS.High))] ∧ OwnL w lo410 hi410 9 1 (RF e_Str) A410 p_aS.Act.Old.Vals.length c410 p_aS.Act.Old.Vals ∧ OwnL w lo411 hi411 9 1 (RF e_Str) A411 p_aS.Act.New.Vals.length c411 p_aS.Act.New.Vals ∧ (lo ≤ lo410 ∧ lo410 ≤ hi410 ∧ hi410 ≤ hi) ∧ (lo ≤ lo411 ∧ lo411 ≤ hi411 ∧ hi411 ≤ hi) ∧ (hi410 ≤ lo411 ∨ hi411 ≤ lo410), DetI (.bool ((l_eqStmt p_aS p_aS))), DetI (.bool (!(l_eqStmt p_aS p_aS)))]) Try.follows rfl rfl rfl rfl rfl rfl (vgetI_stable ⟨StableI.det _, StableI.det _, (fun _ _ _ _ _ ⟨A410, c410, lo410, hi410, A411, c411, lo411, hi411, hv, h410, h411, hr0, hr1, hr2⟩ e => ⟨A410, c410, lo410, hi410, A411, c411, lo411, hi411, hv, OwnL.ex good_Str h410 e, OwnL.ex good_Str h411 e, hr0, hr1, hr2⟩), StableI.det _, StableI.det _, trivial⟩) ⟨?_, ?_, ?_, ?_, ?_, trivial⟩ ?_
              · intro L419 w420 hi421
                have hE422 := hi421.ex
                have hE422z := Ex.size hE422
                have hx423 := hi421.old 8 _ rfl rfl
                have q424 := Box.ex q393 hE422
                exact OpR.op' rfl (Yl.sameI (yl_loadN (cs := [.int .i64 (p_aS.Kind), .int .i64 (p_aS.Act.Kind), .slice A231 p_aS.Act.Old.Vals.length c231, .slice A232 p_aS.Act.New.Vals.length c232, .string (bs (p_aS.Idx)), .string (bs (p_aS.Low)), .string (bs (p_aS.High))]) Try.ty49 rfl hx423 (q424.cells (n := 7) rfl) rfl ⟨fun _ _ => rfl, rfl⟩))
              · intro L425 w426 hi427
                have hE428 := hi427.ex
                have hE428z := Ex.size hE428
                have hx429 := hi427.old 3 _ rfl rfl
                have q430 := Box.ex q398 hE428
                exact OpR.op' rfl (Yl.sameI (yl_loadN (cs := [.int .i64 (p_aS.Kind), .int .i64 (p_aS.Act.Kind), .slice A3 p_aS.Act.Old.Vals.length c3, .slice A4 p_aS.Act.New.Vals.length c4, .string (bs (p_aS.Idx)), .string (bs (p_aS.Low)), .string (bs (p_aS.High))]) Try.ty45 rfl hx429 (q430.cells (n := 7) rfl) rfl ⟨fun _ _ => rfl, rfl⟩))
              · intro L431 w432 hi433
                have hE434 := hi433.ex
                have hE434z := Ex.size hE434
                obtain ⟨_, _, _, hx435, -, -, -, rfl⟩ := hi433.dep 1 41 rfl rfl
                have q436 := RdS.ex good_Str q403 hE434
                have q437 := RdS.ex good_Str q408 hE434
                refine OpR.op' rfl (yl_call Try.en24 rfl (opvs_cons hx435 opvs_nil) (Cal.mono (c_l_toStmt p_aS (RdS.up q436 good_Str) (RdS.up q437 good_Str) ((szok_Stmt pre1 (szok_Table pre0 (by decide) (dec_f hb25)).2 (dec_f hb40)).1)) ?_))
                rintro v441 w438 ⟨A439, c439, lo439, hi439, A440, c440, lo440, hi440, rfl, h439, h440, hrn443, hrn444, hrn445, hE442⟩
                exact ⟨⟨A439, c439, lo439, hi439, A440, c440, lo440, hi440, rfl, h439, h440, hrn443, hrn444, hrn445⟩, hE442⟩
              · intro L446 w447 hi448
                have hE449 := hi448.ex
                have hE449z := Ex.size hE449
                obtain ⟨_, _, _, hx450, -, -, -, rfl⟩ := hi448.dep 0 40 rfl rfl
                obtain ⟨lo452, hh453, _, hx451, hr454, hr455, hr456, A410_457, c410_458, lo410_459, hi410_460, A411_461, c411_462, lo411_463, hi411_464, rfl, h465, h466, hrn467, hrn468, hrn469⟩ := hi448.dep 2 42 rfl rfl
                have q471 := OwnL.ex good_Str q414 hE449
                have q470 := OwnL.rd good_Str q471
                have q473 := OwnL.ex good_Str q417 hE449
                have q472 := OwnL.rd good_Str q473
                have q474 := OwnL.rd good_Str h465
                have q475 := OwnL.rd good_Str h466
                refine OpR.op' rfl (yl_call Try.en26 rfl (opvs_cons hx450 (opvs_cons hx451 opvs_nil)) (Cal.mono (c_l_eqStmt p_aS p_aS (RdS.up q470 good_Str) (RdS.up q472 good_Str) (RdS.up q474 good_Str) (RdS.up q475 good_Str)) ?_))
                rintro v477 w476 ⟨rfl, hE478⟩
                exact ⟨rfl, hE478⟩
              · intro L479 w480 hi481
                have hE482 := hi481.ex
                have hE482z := Ex.size hE482
                obtain ⟨_, _, _, hx483, -, -, -, rfl⟩ := hi481.dep 3 43 rfl rfl
                exact OpR.op' rfl (Yl.sameI (yl_not rfl hx483 ⟨fun _ _ => rfl, rfl⟩))
              · intro fl487 fh488 L484 w485 hp486
                have hE489 := hp486.ex
                have hE489z := Ex.size hE489
                have hr491 := hp486.rng 2 rfl
                obtain ⟨_, hx490, A410_492, c410_493, lo410_494, hi410_495, A411_496, c411_497, lo411_498, hi411_499, rfl, h500, h501, hrn502, hrn503, hrn504⟩ := hp486.new 2 42 rfl rfl
                obtain ⟨_, hx505, rfl⟩ := hp486.new 4 44 rfl rfl
                refine SeqR.done ?_
                refine tn ?_
                refine CW.sub (Sub.cons (d := 44) hx505 (Sub.nil _)) ?_
                refine bcase (l_eqStmt p_aS p_aS) (fun hb506 => ?_) (fun hb506 => ?_)
                · skip
                  refine CW.cond_f rfl (not_t hb506) ?_
                  refine CW.skip ?_
                  refine tn ?_
                  refine CW.seq ?_
                  refine CW.region ?_
                  refine SeqR.d1 rfl rfl rfl (yl_assign rfl rfl ?_)
                  refine SeqR.done ?_
                  refine tn ?_
                  refine CW.ret ?_
                  refine rr rfl (.cons rfl .nil) ?_
                  have hM507 : (l_FnExactGoodStmt p_aT p_aS) = (true) := by simp only [l_FnExactGoodStmt, hb25, hb40, hb271, hb391, hb506, cond_true, cond_false, loopE_done, loopE_ret]
                  rw [hM507]
                  have q508 := Ex.trans (Ex.refl w) hE10
                  have q509 := Ex.trans q508 hE16
                  have q510 := Ex.trans q509 hE24
                  have q511 := Ex.trans q510 hE39
                  have q512 := Ex.trans q511 hE163
                  have q513 := Ex.trans q512 hE205
                  have q514 := Ex.trans q513 hE214
                  have q515 := Below.only q514 hO217 (by omega)
                  have q516 := Ex.trans q515 hE234
                  have q517 := Ex.trans q516 hE243
                  have q518 := Below.only q517 hO246 (by omega)
                  have q519 := Ex.trans q518 hE270
                  have q520 := Ex.trans q519 hE372
                  have q521 := Ex.trans q520 hE489
                  exact ⟨rfl, q521⟩
                · skip
                  refine CW.cond_t rfl (not_f hb506) ?_
                  refine CW.seq ?_
                  refine CW.region ?_
                  refine SeqR.d1 rfl rfl rfl (yl_assign rfl rfl ?_)
                  refine SeqR.done ?_
                  refine tn ?_
                  refine CW.ret ?_
                  refine tr ?_
                  refine rr rfl (.cons rfl .nil) ?_
                  have hM522 : (l_FnExactGoodStmt p_aT p_aS) = (false) := by simp only [l_FnExactGoodStmt, hb25, hb40, hb271, hb391, hb506, cond_true, cond_false, loopE_done, loopE_ret]
                  rw [hM522]
                  have q523 := Ex.trans (Ex.refl w) hE10
                  have q524 := Ex.trans q523 hE16
                  have q525 := Ex.trans q524 hE24
                  have q526 := Ex.trans q525 hE39
                  have q527 := Ex.trans q526 hE163
                  have q528 := Ex.trans q527 hE205
                  have q529 := Ex.trans q528 hE214
                  have q530 := Below.only q529 hO217 (by omega)
                  have q531 := Ex.trans q530 hE234
                  have q532 := Ex.trans q531 hE243
                  have q533 := Below.only q532 hO246 (by omega)
                  have q534 := Ex.trans q533 hE270
                  have q535 := Ex.trans q534 hE372
                  have q536 := Ex.trans q535 hE489
                  exact ⟨rfl, q536⟩
            · skip
              refine CW.cond_t rfl (not_f hb391) ?_
              refine CW.seq ?_
              refine CW.region ?_
              refine SeqR.d1 rfl rfl rfl (yl_assign rfl rfl ?_)
              refine SeqR.done ?_
              refine tn ?_
              refine CW.ret ?_
              refine tr ?_
              refine rr rfl (.cons rfl .nil) ?_
              have hM537 : (l_FnExactGoodStmt p_aT p_aS) = (false) := by simp only [l_FnExactGoodStmt, hb25, hb40, hb271, hb391, cond_true, cond_false, loopE_done, loopE_ret]
              rw [hM537]
              have q538 := Ex.trans (Ex.refl w) hE10
              have q539 := Ex.trans q538 hE16
              have q540 := Ex.trans q539 hE24
              have q541 := Ex.trans q540 hE39
              have q542 := Ex.trans q541 hE163
              have q543 := Ex.trans q542 hE205
              have q544 := Ex.trans q543 hE214
              have q545 := Below.only q544 hO217 (by omega)
              have q546 := Ex.trans q545 hE234
              have q547 := Ex.trans q546 hE243
              have q548 := Below.only q547 hO246 (by omega)
              have q549 := Ex.trans q548 hE270
              have q550 := Ex.trans q549 hE372
              exact ⟨rfl, q550⟩
        · skip
          refine CW.cond_t rfl (not_f hb271) ?_
          refine CW.seq ?_
          refine CW.region ?_
          refine SeqR.d1 rfl rfl rfl (yl_assign rfl rfl ?_)
          refine SeqR.done ?_
          refine tn ?_
          refine CW.ret ?_
          refine tr ?_
          refine rr rfl (.cons rfl .nil) ?_
          have hM551 : (l_FnExactGoodStmt p_aT p_aS) = (false) := by simp only [l_FnExactGoodStmt, hb25, hb40, hb271, cond_true, cond_false, loopE_done, loopE_ret]
          rw [hM551]
          have q552 := Ex.trans (Ex.refl w) hE10
          have q553 := Ex.trans q552 hE16
          have q554 := Ex.trans q553 hE24
          have q555 := Ex.trans q554 hE39
          have q556 := Ex.trans q555 hE163
          have q557 := Ex.trans q556 hE205
          have q558 := Ex.trans q557 hE214
          have q559 := Below.only q558 hO217 (by omega)
          have q560 := Ex.trans q559 hE234
          have q561 := Ex.trans q560 hE243
          have q562 := Below.only q561 hO246 (by omega)
          have q563 := Ex.trans q562 hE270
          exact ⟨rfl, q563⟩
end Go.Proofs.Ytmlfbjlkccnpmaa
