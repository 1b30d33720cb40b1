/- Good Fill: what each call returns, part 1. -/
import Derived.Test.YtnfjabkdlkejkaaGoodFillL
import Derived.Test.YtnfjabkdlkejkaaGoodFillF
set_option linter.unusedVariables false
set_option linter.unusedSimpArgs false
namespace Go.Proofs.Ytnfjabkdlkejkaa
open Go.RowKit Go.X
set_option maxRecDepth 100000 in
set_option maxHeartbeats 2000000 in
theorem c_l_szFill {w : World} (p_a : DFill) (p_left : Int) : Cal Try.prog 15 #[.agg #[.string (bs (p_a.Last)), .bool (p_a.Over)], .int .i64 (p_left)] w fun v w' => v = .int .i64 ((l_szFill p_a p_left)) ∧ Ex w w' := by
  refine Cal.of (vs := [.agg #[.string (bs (p_a.Last)), .bool (p_a.Over)], .int .i64 (p_left)]) Try.func15 rfl Try.ntmps15 rfl ?_
  refine CW.seq ?_
  refine CW.region ?_
  refine SeqR.d1 rfl rfl rfl (yl_box (cs := [.string (bs (p_a.Last)), .bool (p_a.Over)]) rfl rfl rfl ?_)
  intro b1 w2 hs3 hz4 hB5 hE6
  refine SeqR.d1 rfl rfl rfl (yl_assign rfl rfl ?_)
  refine SeqR.done ?_
  refine tn ?_
  refine CW.seq ?_
  refine CW.region ?_
  refine SeqR.d1 rfl rfl rfl (yl_move rfl rfl ?_)
  refine SeqR.d1 rfl rfl rfl (yl_fieldAddr Try.fd26_0 rfl rfl ?_)
  refine SeqR.d1 rfl rfl rfl (yl_load1 Try.ty9 rfl rfl ((hB5.cell 0).trans rfl) ?_)
  refine SeqR.d1 rfl rfl rfl (yl_slen Try.un9 (a := p_a.Last) rfl rfl ?_)
  refine SeqR.d1 rfl rfl rfl (yl_sub rfl rfl rfl ?_)
  refine SeqR.d1 rfl rfl rfl (yl_assign rfl rfl ?_)
  refine SeqR.done ?_
  refine tn ?_
  refine CW.seq ?_
  refine CW.seq ?_
  refine CW.region ?_
  refine SeqR.d1 rfl rfl rfl (yl_move rfl rfl ?_)
  refine SeqR.d1 rfl rfl rfl (yl_lss rfl rfl rfl ?_)
  refine SeqR.done ?_
  refine tn ?_
  refine bcase (decide ((IntKind.wrap .i64 (p_left - (p_a.Last.length : Int))) < 0)) (fun hb7 => ?_) (fun hb7 => ?_)
  · have hb7p := dec_t hb7
    refine CW.cond_t rfl hb7 ?_
    refine CW.seq ?_
    refine CW.region ?_
    refine SeqR.d1 rfl rfl rfl (yl_assign rfl rfl ?_)
    refine SeqR.done ?_
    refine tn ?_
    refine CW.ret ?_
    refine tr ?_
    refine rr rfl (.cons rfl .nil) ?_
    have hM8 : (l_szFill p_a p_left) = (-1) := by simp only [l_szFill, hb7, cond_true, cond_false, loopE_done, loopE_ret]
    rw [hM8]
    have q9 := Ex.trans (Ex.refl w) hE6
    exact ⟨rfl, q9⟩
  · have hb7p := dec_f hb7
    refine CW.cond_f rfl hb7 ?_
    refine CW.skip ?_
    refine tn ?_
    refine CW.seq ?_
    refine CW.region ?_
    refine SeqR.d1 rfl rfl rfl (yl_move rfl rfl ?_)
    refine SeqR.d1 rfl rfl rfl (yl_assign rfl rfl ?_)
    refine SeqR.done ?_
    refine tn ?_
    refine CW.ret ?_
    refine rr rfl (.cons rfl .nil) ?_
    have hM10 : (l_szFill p_a p_left) = (IntKind.wrap .i64 (p_left - (p_a.Last.length : Int))) := by simp only [l_szFill, hb7, cond_true, cond_false, loopE_done, loopE_ret]
    rw [hM10]
    have q11 := Ex.trans (Ex.refl w) hE6
    exact ⟨rfl, q11⟩
set_option maxRecDepth 100000 in
set_option maxHeartbeats 2000000 in
theorem c_s_l1In {w : World} (p_n : Int) (p_lo : Int) (p_hi : Int) : Cal Try.prog 50 #[.int .i64 (p_n), .int .i64 (p_lo), .int .i64 (p_hi)] w fun v w' => v = .bool ((s_l1In p_n p_lo p_hi)) ∧ Ex w w' := by
  refine Cal.of (vs := [.int .i64 (p_n), .int .i64 (p_lo), .int .i64 (p_hi)]) Try.func50 rfl Try.ntmps50 rfl ?_
  refine CW.seq ?_
  refine CW.region ?_
  refine SeqR.d1 rfl rfl rfl (yl_assign rfl rfl ?_)
  refine SeqR.done ?_
  refine tn ?_
  refine CW.seq ?_
  refine CW.region ?_
  refine SeqR.d1 rfl rfl rfl (yl_move rfl rfl ?_)
  refine SeqR.d1 rfl rfl rfl (yl_move rfl rfl ?_)
  refine SeqR.d1 rfl rfl rfl (yl_geq rfl rfl rfl ?_)
  refine SeqR.d1 rfl rfl rfl (yl_move rfl rfl ?_)
  refine bcase (decide (p_lo ≤ p_n)) (fun hb1 => ?_) (fun hb1 => ?_)
  · have hb1p := dec_t hb1
    refine SeqR.y rfl rfl rfl rfl rfl hb1 (yl_move rfl rfl ?_)
    refine SeqR.y rfl rfl rfl rfl rfl hb1 (yl_move rfl rfl ?_)
    refine SeqR.y rfl rfl rfl rfl rfl hb1 (yl_leq rfl rfl rfl ?_)
    refine SeqR.d1 rfl rfl rfl (yl_pick_t rfl rfl hb1 rfl ?_)
    refine SeqR.d1 rfl rfl rfl (yl_assign rfl rfl ?_)
    refine SeqR.done ?_
    refine tn ?_
    refine CW.ret ?_
    refine rr rfl (.cons rfl .nil) ?_
    have hM2 : (s_l1In p_n p_lo p_hi) = (decide (p_n ≤ p_hi)) := by simp only [s_l1In, hb1, cond_true, cond_false, loopE_done, loopE_ret]
    rw [hM2]
    exact ⟨rfl, (Ex.refl w)⟩
  · have hb1p := dec_f hb1
    refine SeqR.z rfl rfl rfl rfl rfl hb1 ?_
    refine SeqR.z rfl rfl rfl rfl rfl hb1 ?_
    refine SeqR.z rfl rfl rfl rfl rfl hb1 ?_
    refine SeqR.d1 rfl rfl rfl (yl_pick_f rfl rfl hb1 rfl ?_)
    refine SeqR.d1 rfl rfl rfl (yl_assign rfl rfl ?_)
    refine SeqR.done ?_
    refine tn ?_
    refine CW.ret ?_
    refine rr rfl (.cons rfl .nil) ?_
    have hM3 : (s_l1In p_n p_lo p_hi) = (false) := by simp only [s_l1In, hb1, cond_true, cond_false, loopE_done, loopE_ret]
    rw [hM3]
    exact ⟨rfl, (Ex.refl w)⟩
set_option maxRecDepth 100000 in
set_option maxHeartbeats 2000000 in
theorem c_s_l3Bytes {w : World} (p_s : Str) (p_more : Str) (o1 : okS p_s) (o2 : okS p_more) : Cal Try.prog 99 #[.string (bs (p_s)), .string (bs (p_more))] w fun v w' => v = .bool ((s_l3Bytes p_s p_more)) ∧ Ex w w' := by
  have hol3 : p_s.length ≤ 1073741824 := o1
  have hol4 : p_more.length ≤ 1073741824 := o2
  refine Cal.of (vs := [.string (bs (p_s)), .string (bs (p_more))]) Try.func99 rfl Try.ntmps99 rfl ?_
  refine CW.seq ?_
  refine CW.region ?_
  refine SeqR.d1 rfl rfl rfl (yl_assign rfl rfl ?_)
  refine SeqR.done ?_
  refine tn ?_
  refine CW.seq ?_
  refine CW.seq ?_
  refine CW.region ?_
  refine SeqR.d1 rfl rfl rfl (yl_assign rfl rfl ?_)
  refine SeqR.done ?_
  refine tn ?_
  refine CW.block ?_
  refine CW.loop (fun m6 L7 w8 => ∃ (k5 : Nat), m6 = p_s.length - k5 ∧ k5 ≤ p_s.length ∧ lkp L7 0 = some (.string (bs (p_s))) ∧ lkp L7 1 = some (.string (bs (p_more))) ∧ lkp L7 5 = some (.int .i64 ((k5 : Int))) ∧ Ex w w8 ∧ loopM (B_s_l3Bytes_0 p_s p_more) (p_s.length - k5) k5 () = loopM (B_s_l3Bytes_0 p_s p_more) (p_s.length - 0) 0 ()) (p_s.length - 0) ?_ ?_
  · exact ⟨0, rfl, Nat.zero_le _, rfl, rfl, rfl, (Ex.refl w), rfl⟩
  · rintro m9 L10 w11 ⟨k5, rfl, hk12, hl14, hl15, hl16, hf17, hI13⟩
    refine CW.sub (Sub.cons hl14 (Sub.cons hl15 (Sub.cons hl16 (Sub.nil _)))) ?_
    have hf17z := Ex.size hf17
    have hbg18 : p_s.length ≤ 1073741824 := o1
    rcases Nat.lt_or_ge k5 p_s.length with hlt19 | hlt19
    · skip
      refine CW.seq ?_
      refine CW.seq ?_
      refine CW.region ?_
      refine SeqR.d1 rfl rfl rfl (yl_move rfl rfl ?_)
      refine SeqR.d1 rfl rfl rfl (yl_move rfl rfl ?_)
      refine SeqR.d1 rfl rfl rfl (yl_slen Try.un9 (a := p_s) rfl rfl ?_)
      refine SeqR.d1 rfl rfl rfl (yl_lss rfl rfl rfl ?_)
      refine SeqR.done ?_
      refine tn ?_
      refine CW.cond_t rfl (lt_t hlt19) ?_
      refine CW.skip ?_
      refine tn ?_
      refine CW.seq ?_
      refine CW.block ?_
      refine CW.seq ?_
      refine CW.region ?_
      refine SeqR.d1 rfl rfl rfl (yl_move rfl rfl ?_)
      refine SeqR.d1 rfl rfl rfl (yl_move rfl rfl ?_)
      refine SeqR.d1 rfl rfl rfl (yl_sindexN Try.un9 (a := p_s) rfl rfl rfl (by first | omega | assumption | (simp only [IntKind.wrap_i64] at *; omega)) ?_)
      refine SeqR.d1 rfl rfl rfl (yl_geq rfl rfl rfl ?_)
      refine SeqR.d1 rfl rfl rfl (yl_move rfl rfl ?_)
      refine bcase (decide (97 ≤ ((p_s.getD k5 0).toNat : Int))) (fun hb20 => ?_) (fun hb20 => ?_)
      · have hb20p := dec_t hb20
        refine SeqR.y rfl rfl rfl rfl rfl hb20 (yl_move rfl rfl ?_)
        refine SeqR.y rfl rfl rfl rfl rfl hb20 (yl_move rfl rfl ?_)
        refine SeqR.y rfl rfl rfl rfl rfl hb20 (yl_sindexN Try.un9 (a := p_s) rfl rfl rfl (by first | omega | assumption | (simp only [IntKind.wrap_i64] at *; omega)) ?_)
        refine SeqR.y rfl rfl rfl rfl rfl hb20 (yl_leq rfl rfl rfl ?_)
        refine SeqR.d1 rfl rfl rfl (yl_pick_t rfl rfl hb20 rfl ?_)
        refine SeqR.d1 rfl rfl rfl (yl_move rfl rfl ?_)
        refine bcase (decide (((p_s.getD k5 0).toNat : Int) ≤ 122)) (fun hb21 => ?_) (fun hb21 => ?_)
        · have hb21p := dec_t hb21
          refine SeqR.z rfl rfl rfl rfl rfl hb21 ?_
          refine SeqR.z rfl rfl rfl rfl rfl hb21 ?_
          refine SeqR.z rfl rfl rfl rfl rfl hb21 ?_
          refine SeqR.z rfl rfl rfl rfl rfl hb21 ?_
          refine SeqR.z rfl rfl rfl rfl rfl hb21 ?_
          refine SeqR.q rfl rfl rfl rfl rfl ?_
          refine SeqR.q rfl rfl rfl rfl rfl ?_
          refine SeqR.q rfl rfl rfl rfl rfl ?_
          refine SeqR.q rfl rfl rfl rfl rfl ?_
          refine SeqR.z rfl rfl rfl rfl rfl hb21 ?_
          refine SeqR.d1 rfl rfl rfl (yl_pick_t rfl rfl hb21 rfl ?_)
          refine SeqR.d1 rfl rfl rfl (yl_assign rfl rfl ?_)
          refine SeqR.done ?_
          refine tn ?_
          refine CW.seq ?_
          refine CW.seq ?_
          refine CW.region ?_
          refine SeqR.d1 rfl rfl rfl (yl_assign rfl rfl ?_)
          refine SeqR.done ?_
          refine tn ?_
          refine CW.block ?_
          refine CW.loop (fun m24 L25 w26 => ∃ (k22 : Nat) (x23 : Bool), m24 = p_more.length - k22 ∧ k22 ≤ p_more.length ∧ lkp L25 0 = some (.string (bs (p_s))) ∧ lkp L25 1 = some (.string (bs (p_more))) ∧ lkp L25 5 = some (.int .i64 ((k5 : Int))) ∧ lkp L25 6 = some (.bool (x23)) ∧ lkp L25 7 = some (.int .i64 ((k22 : Int))) ∧ lkp L25 19 = some (.string (bs (p_s))) ∧ lkp L25 20 = some (.int .i64 ((k5 : Int))) ∧ lkp L25 21 = some (.int .u8 (((p_s.getD k5 0).toNat : Int))) ∧ lkp L25 22 = some (.bool (decide (((p_s.getD k5 0).toNat : Int) ≤ 122))) ∧ lkp L25 25 = some (undef) ∧ lkp L25 26 = some (undef) ∧ lkp L25 27 = some (undef) ∧ lkp L25 28 = some (undef) ∧ lkp L25 29 = some (undef) ∧ lkp L25 30 = some (undef) ∧ lkp L25 31 = some (undef) ∧ lkp L25 32 = some (undef) ∧ lkp L25 33 = some (undef) ∧ lkp L25 34 = some (undef) ∧ Ex w w26 ∧ loopM (B_s_l3Bytes_1 p_s p_more k5) (p_more.length - k22) k22 (x23) = loopM (B_s_l3Bytes_1 p_s p_more k5) (p_more.length - 0) 0 (true)) (p_more.length - 0) ?_ ?_
          · exact ⟨0, true, rfl, Nat.zero_le _, rfl, rfl, rfl, rfl, rfl, rfl, rfl, rfl, rfl, rfl, rfl, rfl, rfl, rfl, rfl, rfl, rfl, rfl, rfl, hf17, rfl⟩
          · rintro m27 L28 w29 ⟨k22, x23, rfl, hk30, hl32, hl33, hl34, hl35, hl36, hl37, hl38, hl39, hl40, hl41, hl42, hl43, hl44, hl45, hl46, hl47, hl48, hl49, hl50, hf51, hI31⟩
            refine CW.sub (Sub.cons hl32 (Sub.cons hl33 (Sub.cons hl34 (Sub.cons hl35 (Sub.cons hl36 (Sub.cons hl37 (Sub.cons hl38 (Sub.cons hl39 (Sub.cons hl40 (Sub.cons hl41 (Sub.cons hl42 (Sub.cons hl43 (Sub.cons hl44 (Sub.cons hl45 (Sub.cons hl46 (Sub.cons hl47 (Sub.cons hl48 (Sub.cons hl49 (Sub.cons hl50 (Sub.nil _)))))))))))))))))))) ?_
            have hf51z := Ex.size hf51
            have hbg52 : p_more.length ≤ 1073741824 := o2
            rcases Nat.lt_or_ge k22 p_more.length with hlt53 | hlt53
            · skip
              refine CW.seq ?_
              refine CW.seq ?_
              refine CW.region ?_
              refine SeqR.d1 rfl rfl rfl (yl_move rfl rfl ?_)
              refine SeqR.d1 rfl rfl rfl (yl_move rfl rfl ?_)
              refine SeqR.d1 rfl rfl rfl (yl_slen Try.un9 (a := p_more) rfl rfl ?_)
              refine SeqR.d1 rfl rfl rfl (yl_lss rfl rfl rfl ?_)
              refine SeqR.done ?_
              refine tn ?_
              refine CW.cond_t rfl (lt_t hlt53) ?_
              refine CW.skip ?_
              refine tn ?_
              refine CW.seq ?_
              refine CW.block ?_
              refine bcase (x23) (fun hb54 => ?_) (fun hb54 => ?_)
              · skip
                refine CW.drawsI 11 (vgetI [DetI (.bool (x23)), DetI (.bool (x23)), DetI (undef), DetI (undef), DetI (undef), DetI (undef), DetI (undef), DetI (undef), DetI (undef), DetI (.bool (true)), DetI (.bool (true))]) Try.follows rfl rfl rfl rfl rfl rfl (vgetI_stable ⟨StableI.det _, StableI.det _, StableI.det _, StableI.det _, StableI.det _, StableI.det _, StableI.det _, StableI.det _, StableI.det _, StableI.det _, StableI.det _, trivial⟩) ⟨?_, ?_, ?_, ?_, ?_, ?_, ?_, ?_, ?_, ?_, ?_, trivial⟩ ?_
                · intro L55 w56 hi57
                  have hE58 := hi57.ex
                  have hE58z := Ex.size hE58
                  have hx59 := hi57.old 6 _ rfl rfl
                  exact OpR.op' rfl (Yl.sameI (yl_move rfl hx59 ⟨fun _ _ => rfl, rfl⟩))
                · intro L60 w61 hi62
                  have hE63 := hi62.ex
                  have hE63z := Ex.size hE63
                  obtain ⟨_, _, _, hx64, -, -, -, rfl⟩ := hi62.dep 0 42 rfl rfl
                  exact OpR.op' rfl (Yl.sameI (yl_move rfl hx64 ⟨fun _ _ => rfl, rfl⟩))
                · intro L65 w66 hi67
                  have hE68 := hi67.ex
                  have hE68z := Ex.size hE68
                  obtain ⟨_, _, _, hx69, -, -, -, rfl⟩ := hi67.dep 1 43 rfl rfl
                  exact OpR.skip rfl rfl hx69 hb54 ⟨rfl, Ex.refl _⟩
                · intro L70 w71 hi72
                  have hE73 := hi72.ex
                  have hE73z := Ex.size hE73
                  obtain ⟨_, _, _, hx74, -, -, -, rfl⟩ := hi72.dep 1 43 rfl rfl
                  exact OpR.skip rfl rfl hx74 hb54 ⟨rfl, Ex.refl _⟩
                · intro L75 w76 hi77
                  have hE78 := hi77.ex
                  have hE78z := Ex.size hE78
                  obtain ⟨_, _, _, hx79, -, -, -, rfl⟩ := hi77.dep 1 43 rfl rfl
                  exact OpR.skip rfl rfl hx79 hb54 ⟨rfl, Ex.refl _⟩
                · intro L80 w81 hi82
                  have hE83 := hi82.ex
                  have hE83z := Ex.size hE83
                  obtain ⟨_, _, _, hx84, -, -, -, rfl⟩ := hi82.dep 1 43 rfl rfl
                  exact OpR.skip rfl rfl hx84 hb54 ⟨rfl, Ex.refl _⟩
                · intro L85 w86 hi87
                  have hE88 := hi87.ex
                  have hE88z := Ex.size hE88
                  obtain ⟨_, _, _, hx89, -, -, -, rfl⟩ := hi87.dep 1 43 rfl rfl
                  exact OpR.skip rfl rfl hx89 hb54 ⟨rfl, Ex.refl _⟩
                · intro L90 w91 hi92
                  have hE93 := hi92.ex
                  have hE93z := Ex.size hE93
                  obtain ⟨_, _, _, hx94, -, -, -, rfl⟩ := hi92.dep 1 43 rfl rfl
                  exact OpR.skip rfl rfl hx94 hb54 ⟨rfl, Ex.refl _⟩
                · intro L95 w96 hi97
                  have hE98 := hi97.ex
                  have hE98z := Ex.size hE98
                  obtain ⟨_, _, _, hx99, -, -, -, rfl⟩ := hi97.dep 1 43 rfl rfl
                  exact OpR.skip rfl rfl hx99 hb54 ⟨rfl, Ex.refl _⟩
                · intro L100 w101 hi102
                  have hE103 := hi102.ex
                  have hE103z := Ex.size hE103
                  obtain ⟨_, _, _, hx104, -, -, -, rfl⟩ := hi102.dep 8 50 rfl rfl
                  obtain ⟨_, _, _, hx105, -, -, -, rfl⟩ := hi102.dep 1 43 rfl rfl
                  exact OpR.op' rfl (Yl.sameI (yl_pick_t rfl hx105 hb54 rfl ⟨fun _ _ => rfl, rfl⟩))
                · intro L106 w107 hi108
                  have hE109 := hi108.ex
                  have hE109z := Ex.size hE109
                  obtain ⟨_, _, _, hx110, -, -, -, rfl⟩ := hi108.dep 9 51 rfl rfl
                  exact OpR.op' rfl (Yl.sameI (yl_assign rfl hx110 ⟨fun _ _ => rfl, rfl⟩))
                · intro fl114 fh115 L111 w112 hp113
                  have hE116 := hp113.ex
                  have hE116z := Ex.size hE116
                  have hx117 := hp113.old 0 _ rfl rfl
                  have hx118 := hp113.old 1 _ rfl rfl
                  have hx119 := hp113.old 5 _ rfl rfl
                  have hx120 := hp113.old 7 _ rfl rfl
                  have hx121 := hp113.old 19 _ rfl rfl
                  have hx122 := hp113.old 20 _ rfl rfl
                  have hx123 := hp113.old 21 _ rfl rfl
                  have hx124 := hp113.old 22 _ rfl rfl
                  have hx125 := hp113.old 25 _ rfl rfl
                  have hx126 := hp113.old 26 _ rfl rfl
                  have hx127 := hp113.old 27 _ rfl rfl
                  have hx128 := hp113.old 28 _ rfl rfl
                  have hx129 := hp113.old 29 _ rfl rfl
                  have hx130 := hp113.old 30 _ rfl rfl
                  have hx131 := hp113.old 31 _ rfl rfl
                  have hx132 := hp113.old 32 _ rfl rfl
                  have hx133 := hp113.old 33 _ rfl rfl
                  have hx134 := hp113.old 34 _ rfl rfl
                  obtain ⟨_, hx135, rfl⟩ := hp113.new 2 44 rfl rfl
                  obtain ⟨_, hx136, rfl⟩ := hp113.new 3 45 rfl rfl
                  obtain ⟨_, hx137, rfl⟩ := hp113.new 4 46 rfl rfl
                  obtain ⟨_, hx138, rfl⟩ := hp113.new 5 47 rfl rfl
                  obtain ⟨_, hx139, rfl⟩ := hp113.new 6 48 rfl rfl
                  obtain ⟨_, hx140, rfl⟩ := hp113.new 7 49 rfl rfl
                  obtain ⟨_, hx141, rfl⟩ := hp113.new 8 50 rfl rfl
                  obtain ⟨_, hx142, rfl⟩ := hp113.new 10 6 rfl rfl
                  refine SeqR.done ?_
                  refine bn ?_
                  refine tn ?_
                  refine CW.sub (Sub.cons (d := 0) hx117 (Sub.cons (d := 1) hx118 (Sub.cons (d := 5) hx119 (Sub.cons (d := 6) hx142 (Sub.cons (d := 7) hx120 (Sub.cons (d := 19) hx121 (Sub.cons (d := 20) hx122 (Sub.cons (d := 21) hx123 (Sub.cons (d := 22) hx124 (Sub.cons (d := 25) hx125 (Sub.cons (d := 26) hx126 (Sub.cons (d := 27) hx127 (Sub.cons (d := 28) hx128 (Sub.cons (d := 29) hx129 (Sub.cons (d := 30) hx130 (Sub.cons (d := 31) hx131 (Sub.cons (d := 32) hx132 (Sub.cons (d := 33) hx133 (Sub.cons (d := 34) hx134 (Sub.cons (d := 44) hx135 (Sub.cons (d := 45) hx136 (Sub.cons (d := 46) hx137 (Sub.cons (d := 47) hx138 (Sub.cons (d := 48) hx139 (Sub.cons (d := 49) hx140 (Sub.cons (d := 50) hx141 (Sub.nil _))))))))))))))))))))))))))) ?_
                  refine CW.region ?_
                  refine SeqR.d1 rfl rfl rfl (yl_move rfl rfl ?_)
                  refine SeqR.d1 rfl rfl rfl (yl_inc rfl rfl rfl (by omega) ?_)
                  refine SeqR.d1 rfl rfl rfl (yl_assign rfl rfl ?_)
                  refine SeqR.done ?_
                  refine tn ?_
                  have hB143 : B_s_l3Bytes_1 p_s p_more k5 k22 (x23) = .cont (true) := by simp only [B_s_l3Bytes_1, hb20, hb21, hb54, cond_true, cond_false, loopE_done, loopE_ret]
                  have q144 := Ex.trans hf51 hE116
                  exact ⟨p_more.length - (k22 + 1), by omega, k22 + 1, true, rfl, hlt53, rfl, rfl, rfl, rfl, rfl, rfl, rfl, rfl, rfl, rfl, rfl, rfl, rfl, rfl, rfl, rfl, rfl, rfl, rfl, q144, (loopM.cont hlt53 hB143).symm.trans hI31⟩
              · skip
                refine CW.drawsI 11 (vgetI [DetI (.bool (x23)), DetI (.bool (x23)), DetI (.string (bs (p_s))), DetI (.int .i64 ((k5 : Int))), DetI (.int .u8 (((p_s.getD k5 0).toNat : Int))), DetI (.string (bs (p_more))), DetI (.int .i64 ((k22 : Int))), DetI (.int .u8 (((p_more.getD k22 0).toNat : Int))), DetI (.bool (decide (((p_s.getD k5 0).toNat : Int) = ((p_more.getD k22 0).toNat : Int)))), DetI (.bool (decide (((p_s.getD k5 0).toNat : Int) = ((p_more.getD k22 0).toNat : Int)))), DetI (.bool (decide (((p_s.getD k5 0).toNat : Int) = ((p_more.getD k22 0).toNat : Int))))]) Try.follows rfl rfl rfl rfl rfl rfl (vgetI_stable ⟨StableI.det _, StableI.det _, StableI.det _, StableI.det _, StableI.det _, StableI.det _, StableI.det _, StableI.det _, StableI.det _, StableI.det _, StableI.det _, trivial⟩) ⟨?_, ?_, ?_, ?_, ?_, ?_, ?_, ?_, ?_, ?_, ?_, trivial⟩ ?_
                · intro L145 w146 hi147
                  have hE148 := hi147.ex
                  have hE148z := Ex.size hE148
                  have hx149 := hi147.old 6 _ rfl rfl
                  exact OpR.op' rfl (Yl.sameI (yl_move rfl hx149 ⟨fun _ _ => rfl, rfl⟩))
                · intro L150 w151 hi152
                  have hE153 := hi152.ex
                  have hE153z := Ex.size hE153
                  obtain ⟨_, _, _, hx154, -, -, -, rfl⟩ := hi152.dep 0 42 rfl rfl
                  exact OpR.op' rfl (Yl.sameI (yl_move rfl hx154 ⟨fun _ _ => rfl, rfl⟩))
                · intro L155 w156 hi157
                  have hE158 := hi157.ex
                  have hE158z := Ex.size hE158
                  obtain ⟨_, _, _, hx159, -, -, -, rfl⟩ := hi157.dep 1 43 rfl rfl
                  have hx160 := hi157.old 0 _ rfl rfl
                  exact OpR.want rfl rfl hx159 hb54 (Yl.sameI (yl_move rfl hx160 ⟨fun _ _ => rfl, rfl⟩))
                · intro L161 w162 hi163
                  have hE164 := hi163.ex
                  have hE164z := Ex.size hE164
                  obtain ⟨_, _, _, hx165, -, -, -, rfl⟩ := hi163.dep 1 43 rfl rfl
                  have hx166 := hi163.old 5 _ rfl rfl
                  exact OpR.want rfl rfl hx165 hb54 (Yl.sameI (yl_move rfl hx166 ⟨fun _ _ => rfl, rfl⟩))
                · intro L167 w168 hi169
                  have hE170 := hi169.ex
                  have hE170z := Ex.size hE170
                  obtain ⟨_, _, _, hx171, -, -, -, rfl⟩ := hi169.dep 1 43 rfl rfl
                  obtain ⟨_, _, _, hx172, -, -, -, rfl⟩ := hi169.dep 2 44 rfl rfl
                  obtain ⟨_, _, _, hx173, -, -, -, rfl⟩ := hi169.dep 3 45 rfl rfl
                  exact OpR.want rfl rfl hx171 hb54 (Yl.sameI (yl_sindexN Try.un9 (a := p_s) rfl hx172 hx173 (by first | omega | assumption | (simp only [IntKind.wrap_i64] at *; omega)) ⟨fun _ _ => rfl, rfl⟩))
                · intro L174 w175 hi176
                  have hE177 := hi176.ex
                  have hE177z := Ex.size hE177
                  obtain ⟨_, _, _, hx178, -, -, -, rfl⟩ := hi176.dep 1 43 rfl rfl
                  have hx179 := hi176.old 1 _ rfl rfl
                  exact OpR.want rfl rfl hx178 hb54 (Yl.sameI (yl_move rfl hx179 ⟨fun _ _ => rfl, rfl⟩))
                · intro L180 w181 hi182
                  have hE183 := hi182.ex
                  have hE183z := Ex.size hE183
                  obtain ⟨_, _, _, hx184, -, -, -, rfl⟩ := hi182.dep 1 43 rfl rfl
                  have hx185 := hi182.old 7 _ rfl rfl
                  exact OpR.want rfl rfl hx184 hb54 (Yl.sameI (yl_move rfl hx185 ⟨fun _ _ => rfl, rfl⟩))
                · intro L186 w187 hi188
                  have hE189 := hi188.ex
                  have hE189z := Ex.size hE189
                  obtain ⟨_, _, _, hx190, -, -, -, rfl⟩ := hi188.dep 1 43 rfl rfl
                  obtain ⟨_, _, _, hx191, -, -, -, rfl⟩ := hi188.dep 5 47 rfl rfl
                  obtain ⟨_, _, _, hx192, -, -, -, rfl⟩ := hi188.dep 6 48 rfl rfl
                  exact OpR.want rfl rfl hx190 hb54 (Yl.sameI (yl_sindexN Try.un9 (a := p_more) rfl hx191 hx192 (by first | omega | assumption | (simp only [IntKind.wrap_i64] at *; omega)) ⟨fun _ _ => rfl, rfl⟩))
                · intro L193 w194 hi195
                  have hE196 := hi195.ex
                  have hE196z := Ex.size hE196
                  obtain ⟨_, _, _, hx197, -, -, -, rfl⟩ := hi195.dep 1 43 rfl rfl
                  obtain ⟨_, _, _, hx198, -, -, -, rfl⟩ := hi195.dep 4 46 rfl rfl
                  obtain ⟨_, _, _, hx199, -, -, -, rfl⟩ := hi195.dep 7 49 rfl rfl
                  exact OpR.want rfl rfl hx197 hb54 (Yl.sameI (yl_eql rfl hx198 hx199 ⟨fun _ _ => rfl, rfl⟩))
                · intro L200 w201 hi202
                  have hE203 := hi202.ex
                  have hE203z := Ex.size hE203
                  obtain ⟨_, _, _, hx204, -, -, -, rfl⟩ := hi202.dep 8 50 rfl rfl
                  obtain ⟨_, _, _, hx205, -, -, -, rfl⟩ := hi202.dep 1 43 rfl rfl
                  exact OpR.op' rfl (Yl.sameI (yl_pick_f rfl hx205 hb54 hx204 ⟨fun _ _ => rfl, rfl⟩))
                · intro L206 w207 hi208
                  have hE209 := hi208.ex
                  have hE209z := Ex.size hE209
                  obtain ⟨_, _, _, hx210, -, -, -, rfl⟩ := hi208.dep 9 51 rfl rfl
                  exact OpR.op' rfl (Yl.sameI (yl_assign rfl hx210 ⟨fun _ _ => rfl, rfl⟩))
                · intro fl214 fh215 L211 w212 hp213
                  have hE216 := hp213.ex
                  have hE216z := Ex.size hE216
                  have hx217 := hp213.old 0 _ rfl rfl
                  have hx218 := hp213.old 1 _ rfl rfl
                  have hx219 := hp213.old 5 _ rfl rfl
                  have hx220 := hp213.old 7 _ rfl rfl
                  have hx221 := hp213.old 19 _ rfl rfl
                  have hx222 := hp213.old 20 _ rfl rfl
                  have hx223 := hp213.old 21 _ rfl rfl
                  have hx224 := hp213.old 22 _ rfl rfl
                  have hx225 := hp213.old 25 _ rfl rfl
                  have hx226 := hp213.old 26 _ rfl rfl
                  have hx227 := hp213.old 27 _ rfl rfl
                  have hx228 := hp213.old 28 _ rfl rfl
                  have hx229 := hp213.old 29 _ rfl rfl
                  have hx230 := hp213.old 30 _ rfl rfl
                  have hx231 := hp213.old 31 _ rfl rfl
                  have hx232 := hp213.old 32 _ rfl rfl
                  have hx233 := hp213.old 33 _ rfl rfl
                  have hx234 := hp213.old 34 _ rfl rfl
                  obtain ⟨_, hx235, rfl⟩ := hp213.new 2 44 rfl rfl
                  obtain ⟨_, hx236, rfl⟩ := hp213.new 3 45 rfl rfl
                  obtain ⟨_, hx237, rfl⟩ := hp213.new 4 46 rfl rfl
                  obtain ⟨_, hx238, rfl⟩ := hp213.new 5 47 rfl rfl
                  obtain ⟨_, hx239, rfl⟩ := hp213.new 6 48 rfl rfl
                  obtain ⟨_, hx240, rfl⟩ := hp213.new 7 49 rfl rfl
                  obtain ⟨_, hx241, rfl⟩ := hp213.new 8 50 rfl rfl
                  obtain ⟨_, hx242, rfl⟩ := hp213.new 10 6 rfl rfl
                  refine SeqR.done ?_
                  refine bn ?_
                  refine tn ?_
                  refine CW.sub (Sub.cons (d := 0) hx217 (Sub.cons (d := 1) hx218 (Sub.cons (d := 5) hx219 (Sub.cons (d := 6) hx242 (Sub.cons (d := 7) hx220 (Sub.cons (d := 19) hx221 (Sub.cons (d := 20) hx222 (Sub.cons (d := 21) hx223 (Sub.cons (d := 22) hx224 (Sub.cons (d := 25) hx225 (Sub.cons (d := 26) hx226 (Sub.cons (d := 27) hx227 (Sub.cons (d := 28) hx228 (Sub.cons (d := 29) hx229 (Sub.cons (d := 30) hx230 (Sub.cons (d := 31) hx231 (Sub.cons (d := 32) hx232 (Sub.cons (d := 33) hx233 (Sub.cons (d := 34) hx234 (Sub.cons (d := 44) hx235 (Sub.cons (d := 45) hx236 (Sub.cons (d := 46) hx237 (Sub.cons (d := 47) hx238 (Sub.cons (d := 48) hx239 (Sub.cons (d := 49) hx240 (Sub.cons (d := 50) hx241 (Sub.nil _))))))))))))))))))))))))))) ?_
                  refine CW.region ?_
                  refine SeqR.d1 rfl rfl rfl (yl_move rfl rfl ?_)
                  refine SeqR.d1 rfl rfl rfl (yl_inc rfl rfl rfl (by omega) ?_)
                  refine SeqR.d1 rfl rfl rfl (yl_assign rfl rfl ?_)
                  refine SeqR.done ?_
                  refine tn ?_
                  have hB243 : B_s_l3Bytes_1 p_s p_more k5 k22 (x23) = .cont (decide (((p_s.getD k5 0).toNat : Int) = ((p_more.getD k22 0).toNat : Int))) := by simp only [B_s_l3Bytes_1, hb20, hb21, hb54, cond_true, cond_false, loopE_done, loopE_ret]
                  have q244 := Ex.trans hf51 hE216
                  exact ⟨p_more.length - (k22 + 1), by omega, k22 + 1, decide (((p_s.getD k5 0).toNat : Int) = ((p_more.getD k22 0).toNat : Int)), rfl, hlt53, rfl, rfl, rfl, rfl, rfl, rfl, rfl, rfl, rfl, rfl, rfl, rfl, rfl, rfl, rfl, rfl, rfl, rfl, rfl, q244, (loopM.cont hlt53 hB243).symm.trans hI31⟩
            · skip
              refine CW.seq ?_
              refine CW.seq ?_
              refine CW.region ?_
              refine SeqR.d1 rfl rfl rfl (yl_move rfl rfl ?_)
              refine SeqR.d1 rfl rfl rfl (yl_move rfl rfl ?_)
              refine SeqR.d1 rfl rfl rfl (yl_slen Try.un9 (a := p_more) rfl rfl ?_)
              refine SeqR.d1 rfl rfl rfl (yl_lss rfl rfl rfl ?_)
              refine SeqR.done ?_
              refine tn ?_
              refine CW.cond_f rfl (lt_f hlt53) ?_
              refine CW.exit ?_
              refine tx ?_
              refine tx ?_
              have hL245 : loopM (B_s_l3Bytes_1 p_s p_more k5) (p_more.length - 0) 0 (true) = .done (x23) := hI31.symm.trans (loopM.stop hlt53)
              refine bx ?_
              refine tn ?_
              refine CW.seq ?_
              refine CW.region ?_
              refine SeqR.d1 rfl rfl rfl (yl_move rfl rfl ?_)
              refine SeqR.d1 rfl rfl rfl (yl_not rfl rfl ?_)
              refine SeqR.done ?_
              refine tn ?_
              refine bcase (x23) (fun hb246 => ?_) (fun hb246 => ?_)
              · skip
                refine CW.cond_f rfl (not_t hb246) ?_
                refine CW.skip ?_
                refine bn ?_
                refine tn ?_
                refine CW.region ?_
                refine SeqR.d1 rfl rfl rfl (yl_move rfl rfl ?_)
                refine SeqR.d1 rfl rfl rfl (yl_inc rfl rfl rfl (by omega) ?_)
                refine SeqR.d1 rfl rfl rfl (yl_assign rfl rfl ?_)
                refine SeqR.done ?_
                refine tn ?_
                have hB247 : B_s_l3Bytes_0 p_s p_more k5 () = .cont () := by simp only [B_s_l3Bytes_0, hb20, hb21, hb246, hL245, cond_true, cond_false, loopE_done, loopE_ret]
                exact ⟨p_s.length - (k5 + 1), by omega, k5 + 1, rfl, hlt19, rfl, rfl, rfl, hf51, (loopM.cont hlt19 hB247).symm.trans hI13⟩
              · skip
                refine CW.cond_t rfl (not_f hb246) ?_
                refine CW.seq ?_
                refine CW.region ?_
                refine SeqR.d1 rfl rfl rfl (yl_assign rfl rfl ?_)
                refine SeqR.done ?_
                refine tn ?_
                refine CW.ret ?_
                refine br ?_
                refine tr ?_
                refine tr ?_
                have hB249 : B_s_l3Bytes_0 p_s p_more k5 () = .ret false := by simp only [B_s_l3Bytes_0, hb20, hb21, hb246, hL245, cond_true, cond_false, loopE_done, loopE_ret]
                have hL248 : loopM (B_s_l3Bytes_0 p_s p_more) (p_s.length - 0) 0 () = .ret false := hI13.symm.trans (loopM.ret hlt19 hB249)
                refine br ?_
                refine tr ?_
                refine rr rfl (.cons rfl .nil) ?_
                have hM250 : (s_l3Bytes p_s p_more) = (false) := by simp only [s_l3Bytes, hb20, hb21, hb246, hL245, hL248, cond_true, cond_false, loopE_done, loopE_ret]
                rw [hM250]
                exact ⟨rfl, hf51⟩
        · have hb21p := dec_f hb21
          refine SeqR.y rfl rfl rfl rfl rfl hb21 (yl_move rfl rfl ?_)
          refine SeqR.y rfl rfl rfl rfl rfl hb21 (yl_move rfl rfl ?_)
          refine SeqR.y rfl rfl rfl rfl rfl hb21 (yl_sindexN Try.un9 (a := p_s) rfl rfl rfl (by first | omega | assumption | (simp only [IntKind.wrap_i64] at *; omega)) ?_)
          refine SeqR.y rfl rfl rfl rfl rfl hb21 (yl_geq rfl rfl rfl ?_)
          refine SeqR.y rfl rfl rfl rfl rfl hb21 (yl_move rfl rfl ?_)
          refine bcase (decide (48 ≤ ((p_s.getD k5 0).toNat : Int))) (fun hb251 => ?_) (fun hb251 => ?_)
          · have hb251p := dec_t hb251
            refine SeqR.y rfl rfl rfl rfl rfl hb251 (yl_move rfl rfl ?_)
            refine SeqR.y rfl rfl rfl rfl rfl hb251 (yl_move rfl rfl ?_)
            refine SeqR.y rfl rfl rfl rfl rfl hb251 (yl_sindexN Try.un9 (a := p_s) rfl rfl rfl (by first | omega | assumption | (simp only [IntKind.wrap_i64] at *; omega)) ?_)
            refine SeqR.y rfl rfl rfl rfl rfl hb251 (yl_leq rfl rfl rfl ?_)
            refine SeqR.y rfl rfl rfl rfl rfl hb21 (yl_pick_t rfl rfl hb251 rfl ?_)
            refine SeqR.d1 rfl rfl rfl (yl_pick_f rfl rfl hb21 rfl ?_)
            refine SeqR.d1 rfl rfl rfl (yl_assign rfl rfl ?_)
            refine SeqR.done ?_
            refine tn ?_
            refine CW.seq ?_
            refine CW.seq ?_
            refine CW.region ?_
            refine SeqR.d1 rfl rfl rfl (yl_assign rfl rfl ?_)
            refine SeqR.done ?_
            refine tn ?_
            refine CW.block ?_
            refine CW.loop (fun m254 L255 w256 => ∃ (k252 : Nat) (x253 : Bool), m254 = p_more.length - k252 ∧ k252 ≤ p_more.length ∧ lkp L255 0 = some (.string (bs (p_s))) ∧ lkp L255 1 = some (.string (bs (p_more))) ∧ lkp L255 5 = some (.int .i64 ((k5 : Int))) ∧ lkp L255 6 = some (.bool (x253)) ∧ lkp L255 7 = some (.int .i64 ((k252 : Int))) ∧ lkp L255 19 = some (.string (bs (p_s))) ∧ lkp L255 20 = some (.int .i64 ((k5 : Int))) ∧ lkp L255 21 = some (.int .u8 (((p_s.getD k5 0).toNat : Int))) ∧ lkp L255 22 = some (.bool (decide (((p_s.getD k5 0).toNat : Int) ≤ 122))) ∧ lkp L255 25 = some (.string (bs (p_s))) ∧ lkp L255 26 = some (.int .i64 ((k5 : Int))) ∧ lkp L255 27 = some (.int .u8 (((p_s.getD k5 0).toNat : Int))) ∧ lkp L255 28 = some (.bool (decide (48 ≤ ((p_s.getD k5 0).toNat : Int)))) ∧ lkp L255 29 = some (.bool (decide (48 ≤ ((p_s.getD k5 0).toNat : Int)))) ∧ lkp L255 30 = some (.string (bs (p_s))) ∧ lkp L255 31 = some (.int .i64 ((k5 : Int))) ∧ lkp L255 32 = some (.int .u8 (((p_s.getD k5 0).toNat : Int))) ∧ lkp L255 33 = some (.bool (decide (((p_s.getD k5 0).toNat : Int) ≤ 57))) ∧ lkp L255 34 = some (.bool (decide (((p_s.getD k5 0).toNat : Int) ≤ 57))) ∧ Ex w w256 ∧ loopM (B_s_l3Bytes_1 p_s p_more k5) (p_more.length - k252) k252 (x253) = loopM (B_s_l3Bytes_1 p_s p_more k5) (p_more.length - 0) 0 (decide (((p_s.getD k5 0).toNat : Int) ≤ 57))) (p_more.length - 0) ?_ ?_
            · exact ⟨0, decide (((p_s.getD k5 0).toNat : Int) ≤ 57), rfl, Nat.zero_le _, rfl, rfl, rfl, rfl, rfl, rfl, rfl, rfl, rfl, rfl, rfl, rfl, rfl, rfl, rfl, rfl, rfl, rfl, rfl, hf17, rfl⟩
            · rintro m257 L258 w259 ⟨k252, x253, rfl, hk260, hl262, hl263, hl264, hl265, hl266, hl267, hl268, hl269, hl270, hl271, hl272, hl273, hl274, hl275, hl276, hl277, hl278, hl279, hl280, hf281, hI261⟩
              refine CW.sub (Sub.cons hl262 (Sub.cons hl263 (Sub.cons hl264 (Sub.cons hl265 (Sub.cons hl266 (Sub.cons hl267 (Sub.cons hl268 (Sub.cons hl269 (Sub.cons hl270 (Sub.cons hl271 (Sub.cons hl272 (Sub.cons hl273 (Sub.cons hl274 (Sub.cons hl275 (Sub.cons hl276 (Sub.cons hl277 (Sub.cons hl278 (Sub.cons hl279 (Sub.cons hl280 (Sub.nil _)))))))))))))))))))) ?_
              have hf281z := Ex.size hf281
              have hbg282 : p_more.length ≤ 1073741824 := o2
              rcases Nat.lt_or_ge k252 p_more.length with hlt283 | hlt283
              · skip
                refine CW.seq ?_
                refine CW.seq ?_
                refine CW.region ?_
                refine SeqR.d1 rfl rfl rfl (yl_move rfl rfl ?_)
                refine SeqR.d1 rfl rfl rfl (yl_move rfl rfl ?_)
                refine SeqR.d1 rfl rfl rfl (yl_slen Try.un9 (a := p_more) rfl rfl ?_)
                refine SeqR.d1 rfl rfl rfl (yl_lss rfl rfl rfl ?_)
                refine SeqR.done ?_
                refine tn ?_
                refine CW.cond_t rfl (lt_t hlt283) ?_
                refine CW.skip ?_
                refine tn ?_
                refine CW.seq ?_
                refine CW.block ?_
                refine bcase (x253) (fun hb284 => ?_) (fun hb284 => ?_)
                · skip
                  refine CW.drawsI 11 (vgetI [DetI (.bool (x253)), DetI (.bool (x253)), DetI (undef), DetI (undef), DetI (undef), DetI (undef), DetI (undef), DetI (undef), DetI (undef), DetI (.bool (true)), DetI (.bool (true))]) Try.follows rfl rfl rfl rfl rfl rfl (vgetI_stable ⟨StableI.det _, StableI.det _, StableI.det _, StableI.det _, StableI.det _, StableI.det _, StableI.det _, StableI.det _, StableI.det _, StableI.det _, StableI.det _, trivial⟩) ⟨?_, ?_, ?_, ?_, ?_, ?_, ?_, ?_, ?_, ?_, ?_, trivial⟩ ?_
                  · intro L285 w286 hi287
                    have hE288 := hi287.ex
                    have hE288z := Ex.size hE288
                    have hx289 := hi287.old 6 _ rfl rfl
                    exact OpR.op' rfl (Yl.sameI (yl_move rfl hx289 ⟨fun _ _ => rfl, rfl⟩))
                  · intro L290 w291 hi292
                    have hE293 := hi292.ex
                    have hE293z := Ex.size hE293
                    obtain ⟨_, _, _, hx294, -, -, -, rfl⟩ := hi292.dep 0 42 rfl rfl
                    exact OpR.op' rfl (Yl.sameI (yl_move rfl hx294 ⟨fun _ _ => rfl, rfl⟩))
                  · intro L295 w296 hi297
                    have hE298 := hi297.ex
                    have hE298z := Ex.size hE298
                    obtain ⟨_, _, _, hx299, -, -, -, rfl⟩ := hi297.dep 1 43 rfl rfl
                    exact OpR.skip rfl rfl hx299 hb284 ⟨rfl, Ex.refl _⟩
                  · intro L300 w301 hi302
                    have hE303 := hi302.ex
                    have hE303z := Ex.size hE303
                    obtain ⟨_, _, _, hx304, -, -, -, rfl⟩ := hi302.dep 1 43 rfl rfl
                    exact OpR.skip rfl rfl hx304 hb284 ⟨rfl, Ex.refl _⟩
                  · intro L305 w306 hi307
                    have hE308 := hi307.ex
                    have hE308z := Ex.size hE308
                    obtain ⟨_, _, _, hx309, -, -, -, rfl⟩ := hi307.dep 1 43 rfl rfl
                    exact OpR.skip rfl rfl hx309 hb284 ⟨rfl, Ex.refl _⟩
                  · intro L310 w311 hi312
                    have hE313 := hi312.ex
                    have hE313z := Ex.size hE313
                    obtain ⟨_, _, _, hx314, -, -, -, rfl⟩ := hi312.dep 1 43 rfl rfl
                    exact OpR.skip rfl rfl hx314 hb284 ⟨rfl, Ex.refl _⟩
                  · intro L315 w316 hi317
                    have hE318 := hi317.ex
                    have hE318z := Ex.size hE318
                    obtain ⟨_, _, _, hx319, -, -, -, rfl⟩ := hi317.dep 1 43 rfl rfl
                    exact OpR.skip rfl rfl hx319 hb284 ⟨rfl, Ex.refl _⟩
                  · intro L320 w321 hi322
                    have hE323 := hi322.ex
                    have hE323z := Ex.size hE323
                    obtain ⟨_, _, _, hx324, -, -, -, rfl⟩ := hi322.dep 1 43 rfl rfl
                    exact OpR.skip rfl rfl hx324 hb284 ⟨rfl, Ex.refl _⟩
                  · intro L325 w326 hi327
                    have hE328 := hi327.ex
                    have hE328z := Ex.size hE328
                    obtain ⟨_, _, _, hx329, -, -, -, rfl⟩ := hi327.dep 1 43 rfl rfl
                    exact OpR.skip rfl rfl hx329 hb284 ⟨rfl, Ex.refl _⟩
                  · intro L330 w331 hi332
                    have hE333 := hi332.ex
                    have hE333z := Ex.size hE333
                    obtain ⟨_, _, _, hx334, -, -, -, rfl⟩ := hi332.dep 8 50 rfl rfl
                    obtain ⟨_, _, _, hx335, -, -, -, rfl⟩ := hi332.dep 1 43 rfl rfl
                    exact OpR.op' rfl (Yl.sameI (yl_pick_t rfl hx335 hb284 rfl ⟨fun _ _ => rfl, rfl⟩))
                  · intro L336 w337 hi338
                    have hE339 := hi338.ex
                    have hE339z := Ex.size hE339
                    obtain ⟨_, _, _, hx340, -, -, -, rfl⟩ := hi338.dep 9 51 rfl rfl
                    exact OpR.op' rfl (Yl.sameI (yl_assign rfl hx340 ⟨fun _ _ => rfl, rfl⟩))
                  · intro fl344 fh345 L341 w342 hp343
                    have hE346 := hp343.ex
                    have hE346z := Ex.size hE346
                    have hx347 := hp343.old 0 _ rfl rfl
                    have hx348 := hp343.old 1 _ rfl rfl
                    have hx349 := hp343.old 5 _ rfl rfl
                    have hx350 := hp343.old 7 _ rfl rfl
                    have hx351 := hp343.old 19 _ rfl rfl
                    have hx352 := hp343.old 20 _ rfl rfl
                    have hx353 := hp343.old 21 _ rfl rfl
                    have hx354 := hp343.old 22 _ rfl rfl
                    have hx355 := hp343.old 25 _ rfl rfl
                    have hx356 := hp343.old 26 _ rfl rfl
                    have hx357 := hp343.old 27 _ rfl rfl
                    have hx358 := hp343.old 28 _ rfl rfl
                    have hx359 := hp343.old 29 _ rfl rfl
                    have hx360 := hp343.old 30 _ rfl rfl
                    have hx361 := hp343.old 31 _ rfl rfl
                    have hx362 := hp343.old 32 _ rfl rfl
                    have hx363 := hp343.old 33 _ rfl rfl
                    have hx364 := hp343.old 34 _ rfl rfl
                    obtain ⟨_, hx365, rfl⟩ := hp343.new 2 44 rfl rfl
                    obtain ⟨_, hx366, rfl⟩ := hp343.new 3 45 rfl rfl
                    obtain ⟨_, hx367, rfl⟩ := hp343.new 4 46 rfl rfl
                    obtain ⟨_, hx368, rfl⟩ := hp343.new 5 47 rfl rfl
                    obtain ⟨_, hx369, rfl⟩ := hp343.new 6 48 rfl rfl
                    obtain ⟨_, hx370, rfl⟩ := hp343.new 7 49 rfl rfl
                    obtain ⟨_, hx371, rfl⟩ := hp343.new 8 50 rfl rfl
                    obtain ⟨_, hx372, rfl⟩ := hp343.new 10 6 rfl rfl
                    refine SeqR.done ?_
                    refine bn ?_
                    refine tn ?_
                    refine CW.sub (Sub.cons (d := 0) hx347 (Sub.cons (d := 1) hx348 (Sub.cons (d := 5) hx349 (Sub.cons (d := 6) hx372 (Sub.cons (d := 7) hx350 (Sub.cons (d := 19) hx351 (Sub.cons (d := 20) hx352 (Sub.cons (d := 21) hx353 (Sub.cons (d := 22) hx354 (Sub.cons (d := 25) hx355 (Sub.cons (d := 26) hx356 (Sub.cons (d := 27) hx357 (Sub.cons (d := 28) hx358 (Sub.cons (d := 29) hx359 (Sub.cons (d := 30) hx360 (Sub.cons (d := 31) hx361 (Sub.cons (d := 32) hx362 (Sub.cons (d := 33) hx363 (Sub.cons (d := 34) hx364 (Sub.cons (d := 44) hx365 (Sub.cons (d := 45) hx366 (Sub.cons (d := 46) hx367 (Sub.cons (d := 47) hx368 (Sub.cons (d := 48) hx369 (Sub.cons (d := 49) hx370 (Sub.cons (d := 50) hx371 (Sub.nil _))))))))))))))))))))))))))) ?_
                    refine CW.region ?_
                    refine SeqR.d1 rfl rfl rfl (yl_move rfl rfl ?_)
                    refine SeqR.d1 rfl rfl rfl (yl_inc rfl rfl rfl (by omega) ?_)
                    refine SeqR.d1 rfl rfl rfl (yl_assign rfl rfl ?_)
                    refine SeqR.done ?_
                    refine tn ?_
                    have hB373 : B_s_l3Bytes_1 p_s p_more k5 k252 (x253) = .cont (true) := by simp only [B_s_l3Bytes_1, hb20, hb21, hb251, hb284, cond_true, cond_false, loopE_done, loopE_ret]
                    have q374 := Ex.trans hf281 hE346
                    exact ⟨p_more.length - (k252 + 1), by omega, k252 + 1, true, rfl, hlt283, rfl, rfl, rfl, rfl, rfl, rfl, rfl, rfl, rfl, rfl, rfl, rfl, rfl, rfl, rfl, rfl, rfl, rfl, rfl, q374, (loopM.cont hlt283 hB373).symm.trans hI261⟩
                · skip
                  refine CW.drawsI 11 (vgetI [DetI (.bool (x253)), DetI (.bool (x253)), DetI (.string (bs (p_s))), DetI (.int .i64 ((k5 : Int))), DetI (.int .u8 (((p_s.getD k5 0).toNat : Int))), DetI (.string (bs (p_more))), DetI (.int .i64 ((k252 : Int))), DetI (.int .u8 (((p_more.getD k252 0).toNat : Int))), DetI (.bool (decide (((p_s.getD k5 0).toNat : Int) = ((p_more.getD k252 0).toNat : Int)))), DetI (.bool (decide (((p_s.getD k5 0).toNat : Int) = ((p_more.getD k252 0).toNat : Int)))), DetI (.bool (decide (((p_s.getD k5 0).toNat : Int) = ((p_more.getD k252 0).toNat : Int))))]) Try.follows rfl rfl rfl rfl rfl rfl (vgetI_stable ⟨StableI.det _, StableI.det _, StableI.det _, StableI.det _, StableI.det _, StableI.det _, StableI.det _, StableI.det _, StableI.det _, StableI.det _, StableI.det _, trivial⟩) ⟨?_, ?_, ?_, ?_, ?_, ?_, ?_, ?_, ?_, ?_, ?_, trivial⟩ ?_
                  · intro L375 w376 hi377
                    have hE378 := hi377.ex
                    have hE378z := Ex.size hE378
                    have hx379 := hi377.old 6 _ rfl rfl
                    exact OpR.op' rfl (Yl.sameI (yl_move rfl hx379 ⟨fun _ _ => rfl, rfl⟩))
                  · intro L380 w381 hi382
                    have hE383 := hi382.ex
                    have hE383z := Ex.size hE383
                    obtain ⟨_, _, _, hx384, -, -, -, rfl⟩ := hi382.dep 0 42 rfl rfl
                    exact OpR.op' rfl (Yl.sameI (yl_move rfl hx384 ⟨fun _ _ => rfl, rfl⟩))
                  · intro L385 w386 hi387
                    have hE388 := hi387.ex
                    have hE388z := Ex.size hE388
                    obtain ⟨_, _, _, hx389, -, -, -, rfl⟩ := hi387.dep 1 43 rfl rfl
                    have hx390 := hi387.old 0 _ rfl rfl
                    exact OpR.want rfl rfl hx389 hb284 (Yl.sameI (yl_move rfl hx390 ⟨fun _ _ => rfl, rfl⟩))
                  · intro L391 w392 hi393
                    have hE394 := hi393.ex
                    have hE394z := Ex.size hE394
                    obtain ⟨_, _, _, hx395, -, -, -, rfl⟩ := hi393.dep 1 43 rfl rfl
                    have hx396 := hi393.old 5 _ rfl rfl
                    exact OpR.want rfl rfl hx395 hb284 (Yl.sameI (yl_move rfl hx396 ⟨fun _ _ => rfl, rfl⟩))
                  · intro L397 w398 hi399
                    have hE400 := hi399.ex
                    have hE400z := Ex.size hE400
                    obtain ⟨_, _, _, hx401, -, -, -, rfl⟩ := hi399.dep 1 43 rfl rfl
                    obtain ⟨_, _, _, hx402, -, -, -, rfl⟩ := hi399.dep 2 44 rfl rfl
                    obtain ⟨_, _, _, hx403, -, -, -, rfl⟩ := hi399.dep 3 45 rfl rfl
                    exact OpR.want rfl rfl hx401 hb284 (Yl.sameI (yl_sindexN Try.un9 (a := p_s) rfl hx402 hx403 (by first | omega | assumption | (simp only [IntKind.wrap_i64] at *; omega)) ⟨fun _ _ => rfl, rfl⟩))
                  · intro L404 w405 hi406
                    have hE407 := hi406.ex
                    have hE407z := Ex.size hE407
                    obtain ⟨_, _, _, hx408, -, -, -, rfl⟩ := hi406.dep 1 43 rfl rfl
                    have hx409 := hi406.old 1 _ rfl rfl
                    exact OpR.want rfl rfl hx408 hb284 (Yl.sameI (yl_move rfl hx409 ⟨fun _ _ => rfl, rfl⟩))
                  · intro L410 w411 hi412
                    have hE413 := hi412.ex
                    have hE413z := Ex.size hE413
                    obtain ⟨_, _, _, hx414, -, -, -, rfl⟩ := hi412.dep 1 43 rfl rfl
                    have hx415 := hi412.old 7 _ rfl rfl
                    exact OpR.want rfl rfl hx414 hb284 (Yl.sameI (yl_move rfl hx415 ⟨fun _ _ => rfl, rfl⟩))
                  · intro L416 w417 hi418
                    have hE419 := hi418.ex
                    have hE419z := Ex.size hE419
                    obtain ⟨_, _, _, hx420, -, -, -, rfl⟩ := hi418.dep 1 43 rfl rfl
                    obtain ⟨_, _, _, hx421, -, -, -, rfl⟩ := hi418.dep 5 47 rfl rfl
                    obtain ⟨_, _, _, hx422, -, -, -, rfl⟩ := hi418.dep 6 48 rfl rfl
                    exact OpR.want rfl rfl hx420 hb284 (Yl.sameI (yl_sindexN Try.un9 (a := p_more) rfl hx421 hx422 (by first | omega | assumption | (simp only [IntKind.wrap_i64] at *; omega)) ⟨fun _ _ => rfl, rfl⟩))
                  · intro L423 w424 hi425
                    have hE426 := hi425.ex
                    have hE426z := Ex.size hE426
                    obtain ⟨_, _, _, hx427, -, -, -, rfl⟩ := hi425.dep 1 43 rfl rfl
                    obtain ⟨_, _, _, hx428, -, -, -, rfl⟩ := hi425.dep 4 46 rfl rfl
                    obtain ⟨_, _, _, hx429, -, -, -, rfl⟩ := hi425.dep 7 49 rfl rfl
                    exact OpR.want rfl rfl hx427 hb284 (Yl.sameI (yl_eql rfl hx428 hx429 ⟨fun _ _ => rfl, rfl⟩))
                  · intro L430 w431 hi432
                    have hE433 := hi432.ex
                    have hE433z := Ex.size hE433
                    obtain ⟨_, _, _, hx434, -, -, -, rfl⟩ := hi432.dep 8 50 rfl rfl
                    obtain ⟨_, _, _, hx435, -, -, -, rfl⟩ := hi432.dep 1 43 rfl rfl
                    exact OpR.op' rfl (Yl.sameI (yl_pick_f rfl hx435 hb284 hx434 ⟨fun _ _ => rfl, rfl⟩))
                  · intro L436 w437 hi438
                    have hE439 := hi438.ex
                    have hE439z := Ex.size hE439
                    obtain ⟨_, _, _, hx440, -, -, -, rfl⟩ := hi438.dep 9 51 rfl rfl
                    exact OpR.op' rfl (Yl.sameI (yl_assign rfl hx440 ⟨fun _ _ => rfl, rfl⟩))
                  · intro fl444 fh445 L441 w442 hp443
                    have hE446 := hp443.ex
                    have hE446z := Ex.size hE446
                    have hx447 := hp443.old 0 _ rfl rfl
                    have hx448 := hp443.old 1 _ rfl rfl
                    have hx449 := hp443.old 5 _ rfl rfl
                    have hx450 := hp443.old 7 _ rfl rfl
                    have hx451 := hp443.old 19 _ rfl rfl
                    have hx452 := hp443.old 20 _ rfl rfl
                    have hx453 := hp443.old 21 _ rfl rfl
                    have hx454 := hp443.old 22 _ rfl rfl
                    have hx455 := hp443.old 25 _ rfl rfl
                    have hx456 := hp443.old 26 _ rfl rfl
                    have hx457 := hp443.old 27 _ rfl rfl
                    have hx458 := hp443.old 28 _ rfl rfl
                    have hx459 := hp443.old 29 _ rfl rfl
                    have hx460 := hp443.old 30 _ rfl rfl
                    have hx461 := hp443.old 31 _ rfl rfl
                    have hx462 := hp443.old 32 _ rfl rfl
                    have hx463 := hp443.old 33 _ rfl rfl
                    have hx464 := hp443.old 34 _ rfl rfl
                    obtain ⟨_, hx465, rfl⟩ := hp443.new 2 44 rfl rfl
                    obtain ⟨_, hx466, rfl⟩ := hp443.new 3 45 rfl rfl
                    obtain ⟨_, hx467, rfl⟩ := hp443.new 4 46 rfl rfl
                    obtain ⟨_, hx468, rfl⟩ := hp443.new 5 47 rfl rfl
                    obtain ⟨_, hx469, rfl⟩ := hp443.new 6 48 rfl rfl
                    obtain ⟨_, hx470, rfl⟩ := hp443.new 7 49 rfl rfl
                    obtain ⟨_, hx471, rfl⟩ := hp443.new 8 50 rfl rfl
                    obtain ⟨_, hx472, rfl⟩ := hp443.new 10 6 rfl rfl
                    refine SeqR.done ?_
                    refine bn ?_
                    refine tn ?_
                    refine CW.sub (Sub.cons (d := 0) hx447 (Sub.cons (d := 1) hx448 (Sub.cons (d := 5) hx449 (Sub.cons (d := 6) hx472 (Sub.cons (d := 7) hx450 (Sub.cons (d := 19) hx451 (Sub.cons (d := 20) hx452 (Sub.cons (d := 21) hx453 (Sub.cons (d := 22) hx454 (Sub.cons (d := 25) hx455 (Sub.cons (d := 26) hx456 (Sub.cons (d := 27) hx457 (Sub.cons (d := 28) hx458 (Sub.cons (d := 29) hx459 (Sub.cons (d := 30) hx460 (Sub.cons (d := 31) hx461 (Sub.cons (d := 32) hx462 (Sub.cons (d := 33) hx463 (Sub.cons (d := 34) hx464 (Sub.cons (d := 44) hx465 (Sub.cons (d := 45) hx466 (Sub.cons (d := 46) hx467 (Sub.cons (d := 47) hx468 (Sub.cons (d := 48) hx469 (Sub.cons (d := 49) hx470 (Sub.cons (d := 50) hx471 (Sub.nil _))))))))))))))))))))))))))) ?_
                    refine CW.region ?_
                    refine SeqR.d1 rfl rfl rfl (yl_move rfl rfl ?_)
                    refine SeqR.d1 rfl rfl rfl (yl_inc rfl rfl rfl (by omega) ?_)
                    refine SeqR.d1 rfl rfl rfl (yl_assign rfl rfl ?_)
                    refine SeqR.done ?_
                    refine tn ?_
                    have hB473 : B_s_l3Bytes_1 p_s p_more k5 k252 (x253) = .cont (decide (((p_s.getD k5 0).toNat : Int) = ((p_more.getD k252 0).toNat : Int))) := by simp only [B_s_l3Bytes_1, hb20, hb21, hb251, hb284, cond_true, cond_false, loopE_done, loopE_ret]
                    have q474 := Ex.trans hf281 hE446
                    exact ⟨p_more.length - (k252 + 1), by omega, k252 + 1, decide (((p_s.getD k5 0).toNat : Int) = ((p_more.getD k252 0).toNat : Int)), rfl, hlt283, rfl, rfl, rfl, rfl, rfl, rfl, rfl, rfl, rfl, rfl, rfl, rfl, rfl, rfl, rfl, rfl, rfl, rfl, rfl, q474, (loopM.cont hlt283 hB473).symm.trans hI261⟩
              · skip
                refine CW.seq ?_
                refine CW.seq ?_
                refine CW.region ?_
                refine SeqR.d1 rfl rfl rfl (yl_move rfl rfl ?_)
                refine SeqR.d1 rfl rfl rfl (yl_move rfl rfl ?_)
                refine SeqR.d1 rfl rfl rfl (yl_slen Try.un9 (a := p_more) rfl rfl ?_)
                refine SeqR.d1 rfl rfl rfl (yl_lss rfl rfl rfl ?_)
                refine SeqR.done ?_
                refine tn ?_
                refine CW.cond_f rfl (lt_f hlt283) ?_
                refine CW.exit ?_
                refine tx ?_
                refine tx ?_
                have hL475 : loopM (B_s_l3Bytes_1 p_s p_more k5) (p_more.length - 0) 0 (decide (((p_s.getD k5 0).toNat : Int) ≤ 57)) = .done (x253) := hI261.symm.trans (loopM.stop hlt283)
                refine bx ?_
                refine tn ?_
                refine CW.seq ?_
                refine CW.region ?_
                refine SeqR.d1 rfl rfl rfl (yl_move rfl rfl ?_)
                refine SeqR.d1 rfl rfl rfl (yl_not rfl rfl ?_)
                refine SeqR.done ?_
                refine tn ?_
                refine bcase (x253) (fun hb476 => ?_) (fun hb476 => ?_)
                · skip
                  refine CW.cond_f rfl (not_t hb476) ?_
                  refine CW.skip ?_
                  refine bn ?_
                  refine tn ?_
                  refine CW.region ?_
                  refine SeqR.d1 rfl rfl rfl (yl_move rfl rfl ?_)
                  refine SeqR.d1 rfl rfl rfl (yl_inc rfl rfl rfl (by omega) ?_)
                  refine SeqR.d1 rfl rfl rfl (yl_assign rfl rfl ?_)
                  refine SeqR.done ?_
                  refine tn ?_
                  have hB477 : B_s_l3Bytes_0 p_s p_more k5 () = .cont () := by simp only [B_s_l3Bytes_0, hb20, hb21, hb251, hb476, hL475, cond_true, cond_false, loopE_done, loopE_ret]
                  exact ⟨p_s.length - (k5 + 1), by omega, k5 + 1, rfl, hlt19, rfl, rfl, rfl, hf281, (loopM.cont hlt19 hB477).symm.trans hI13⟩
                · skip
                  refine CW.cond_t rfl (not_f hb476) ?_
                  refine CW.seq ?_
                  refine CW.region ?_
                  refine SeqR.d1 rfl rfl rfl (yl_assign rfl rfl ?_)
                  refine SeqR.done ?_
                  refine tn ?_
                  refine CW.ret ?_
                  refine br ?_
                  refine tr ?_
                  refine tr ?_
                  have hB479 : B_s_l3Bytes_0 p_s p_more k5 () = .ret false := by simp only [B_s_l3Bytes_0, hb20, hb21, hb251, hb476, hL475, cond_true, cond_false, loopE_done, loopE_ret]
                  have hL478 : loopM (B_s_l3Bytes_0 p_s p_more) (p_s.length - 0) 0 () = .ret false := hI13.symm.trans (loopM.ret hlt19 hB479)
                  refine br ?_
                  refine tr ?_
                  refine rr rfl (.cons rfl .nil) ?_
                  have hM480 : (s_l3Bytes p_s p_more) = (false) := by simp only [s_l3Bytes, hb20, hb21, hb251, hb476, hL475, hL478, cond_true, cond_false, loopE_done, loopE_ret]
                  rw [hM480]
                  exact ⟨rfl, hf281⟩
          · have hb251p := dec_f hb251
            refine SeqR.z rfl rfl rfl rfl rfl hb251 ?_
            refine SeqR.z rfl rfl rfl rfl rfl hb251 ?_
            refine SeqR.z rfl rfl rfl rfl rfl hb251 ?_
            refine SeqR.z rfl rfl rfl rfl rfl hb251 ?_
            refine SeqR.y rfl rfl rfl rfl rfl hb21 (yl_pick_f rfl rfl hb251 rfl ?_)
            refine SeqR.d1 rfl rfl rfl (yl_pick_f rfl rfl hb21 rfl ?_)
            refine SeqR.d1 rfl rfl rfl (yl_assign rfl rfl ?_)
            refine SeqR.done ?_
            refine tn ?_
            refine CW.seq ?_
            refine CW.seq ?_
            refine CW.region ?_
            refine SeqR.d1 rfl rfl rfl (yl_assign rfl rfl ?_)
            refine SeqR.done ?_
            refine tn ?_
            refine CW.block ?_
            refine CW.loop (fun m483 L484 w485 => ∃ (k481 : Nat) (x482 : Bool), m483 = p_more.length - k481 ∧ k481 ≤ p_more.length ∧ lkp L484 0 = some (.string (bs (p_s))) ∧ lkp L484 1 = some (.string (bs (p_more))) ∧ lkp L484 5 = some (.int .i64 ((k5 : Int))) ∧ lkp L484 6 = some (.bool (x482)) ∧ lkp L484 7 = some (.int .i64 ((k481 : Int))) ∧ lkp L484 19 = some (.string (bs (p_s))) ∧ lkp L484 20 = some (.int .i64 ((k5 : Int))) ∧ lkp L484 21 = some (.int .u8 (((p_s.getD k5 0).toNat : Int))) ∧ lkp L484 22 = some (.bool (decide (((p_s.getD k5 0).toNat : Int) ≤ 122))) ∧ lkp L484 25 = some (.string (bs (p_s))) ∧ lkp L484 26 = some (.int .i64 ((k5 : Int))) ∧ lkp L484 27 = some (.int .u8 (((p_s.getD k5 0).toNat : Int))) ∧ lkp L484 28 = some (.bool (decide (48 ≤ ((p_s.getD k5 0).toNat : Int)))) ∧ lkp L484 29 = some (.bool (decide (48 ≤ ((p_s.getD k5 0).toNat : Int)))) ∧ lkp L484 30 = some (undef) ∧ lkp L484 31 = some (undef) ∧ lkp L484 32 = some (undef) ∧ lkp L484 33 = some (undef) ∧ lkp L484 34 = some (.bool (false)) ∧ Ex w w485 ∧ loopM (B_s_l3Bytes_1 p_s p_more k5) (p_more.length - k481) k481 (x482) = loopM (B_s_l3Bytes_1 p_s p_more k5) (p_more.length - 0) 0 (false)) (p_more.length - 0) ?_ ?_
            · exact ⟨0, false, rfl, Nat.zero_le _, rfl, rfl, rfl, rfl, rfl, rfl, rfl, rfl, rfl, rfl, rfl, rfl, rfl, rfl, rfl, rfl, rfl, rfl, rfl, hf17, rfl⟩
            · rintro m486 L487 w488 ⟨k481, x482, rfl, hk489, hl491, hl492, hl493, hl494, hl495, hl496, hl497, hl498, hl499, hl500, hl501, hl502, hl503, hl504, hl505, hl506, hl507, hl508, hl509, hf510, hI490⟩
              refine CW.sub (Sub.cons hl491 (Sub.cons hl492 (Sub.cons hl493 (Sub.cons hl494 (Sub.cons hl495 (Sub.cons hl496 (Sub.cons hl497 (Sub.cons hl498 (Sub.cons hl499 (Sub.cons hl500 (Sub.cons hl501 (Sub.cons hl502 (Sub.cons hl503 (Sub.cons hl504 (Sub.cons hl505 (Sub.cons hl506 (Sub.cons hl507 (Sub.cons hl508 (Sub.cons hl509 (Sub.nil _)))))))))))))))))))) ?_
              have hf510z := Ex.size hf510
              have hbg511 : p_more.length ≤ 1073741824 := o2
              rcases Nat.lt_or_ge k481 p_more.length with hlt512 | hlt512
              · skip
                refine CW.seq ?_
                refine CW.seq ?_
                refine CW.region ?_
                refine SeqR.d1 rfl rfl rfl (yl_move rfl rfl ?_)
                refine SeqR.d1 rfl rfl rfl (yl_move rfl rfl ?_)
                refine SeqR.d1 rfl rfl rfl (yl_slen Try.un9 (a := p_more) rfl rfl ?_)
                refine SeqR.d1 rfl rfl rfl (yl_lss rfl rfl rfl ?_)
                refine SeqR.done ?_
                refine tn ?_
                refine CW.cond_t rfl (lt_t hlt512) ?_
                refine CW.skip ?_
                refine tn ?_
                refine CW.seq ?_
                refine CW.block ?_
                refine bcase (x482) (fun hb513 => ?_) (fun hb513 => ?_)
                · skip
                  refine CW.drawsI 11 (vgetI [DetI (.bool (x482)), DetI (.bool (x482)), DetI (undef), DetI (undef), DetI (undef), DetI (undef), DetI (undef), DetI (undef), DetI (undef), DetI (.bool (true)), DetI (.bool (true))]) Try.follows rfl rfl rfl rfl rfl rfl (vgetI_stable ⟨StableI.det _, StableI.det _, StableI.det _, StableI.det _, StableI.det _, StableI.det _, StableI.det _, StableI.det _, StableI.det _, StableI.det _, StableI.det _, trivial⟩) ⟨?_, ?_, ?_, ?_, ?_, ?_, ?_, ?_, ?_, ?_, ?_, trivial⟩ ?_
                  · intro L514 w515 hi516
                    have hE517 := hi516.ex
                    have hE517z := Ex.size hE517
                    have hx518 := hi516.old 6 _ rfl rfl
                    exact OpR.op' rfl (Yl.sameI (yl_move rfl hx518 ⟨fun _ _ => rfl, rfl⟩))
                  · intro L519 w520 hi521
                    have hE522 := hi521.ex
                    have hE522z := Ex.size hE522
                    obtain ⟨_, _, _, hx523, -, -, -, rfl⟩ := hi521.dep 0 42 rfl rfl
                    exact OpR.op' rfl (Yl.sameI (yl_move rfl hx523 ⟨fun _ _ => rfl, rfl⟩))
                  · intro L524 w525 hi526
                    have hE527 := hi526.ex
                    have hE527z := Ex.size hE527
                    obtain ⟨_, _, _, hx528, -, -, -, rfl⟩ := hi526.dep 1 43 rfl rfl
                    exact OpR.skip rfl rfl hx528 hb513 ⟨rfl, Ex.refl _⟩
                  · intro L529 w530 hi531
                    have hE532 := hi531.ex
                    have hE532z := Ex.size hE532
                    obtain ⟨_, _, _, hx533, -, -, -, rfl⟩ := hi531.dep 1 43 rfl rfl
                    exact OpR.skip rfl rfl hx533 hb513 ⟨rfl, Ex.refl _⟩
                  · intro L534 w535 hi536
                    have hE537 := hi536.ex
                    have hE537z := Ex.size hE537
                    obtain ⟨_, _, _, hx538, -, -, -, rfl⟩ := hi536.dep 1 43 rfl rfl
                    exact OpR.skip rfl rfl hx538 hb513 ⟨rfl, Ex.refl _⟩
                  · intro L539 w540 hi541
                    have hE542 := hi541.ex
                    have hE542z := Ex.size hE542
                    obtain ⟨_, _, _, hx543, -, -, -, rfl⟩ := hi541.dep 1 43 rfl rfl
                    exact OpR.skip rfl rfl hx543 hb513 ⟨rfl, Ex.refl _⟩
                  · intro L544 w545 hi546
                    have hE547 := hi546.ex
                    have hE547z := Ex.size hE547
                    obtain ⟨_, _, _, hx548, -, -, -, rfl⟩ := hi546.dep 1 43 rfl rfl
                    exact OpR.skip rfl rfl hx548 hb513 ⟨rfl, Ex.refl _⟩
                  · intro L549 w550 hi551
                    have hE552 := hi551.ex
                    have hE552z := Ex.size hE552
                    obtain ⟨_, _, _, hx553, -, -, -, rfl⟩ := hi551.dep 1 43 rfl rfl
                    exact OpR.skip rfl rfl hx553 hb513 ⟨rfl, Ex.refl _⟩
                  · intro L554 w555 hi556
                    have hE557 := hi556.ex
                    have hE557z := Ex.size hE557
                    obtain ⟨_, _, _, hx558, -, -, -, rfl⟩ := hi556.dep 1 43 rfl rfl
                    exact OpR.skip rfl rfl hx558 hb513 ⟨rfl, Ex.refl _⟩
                  · intro L559 w560 hi561
                    have hE562 := hi561.ex
                    have hE562z := Ex.size hE562
                    obtain ⟨_, _, _, hx563, -, -, -, rfl⟩ := hi561.dep 8 50 rfl rfl
                    obtain ⟨_, _, _, hx564, -, -, -, rfl⟩ := hi561.dep 1 43 rfl rfl
                    exact OpR.op' rfl (Yl.sameI (yl_pick_t rfl hx564 hb513 rfl ⟨fun _ _ => rfl, rfl⟩))
                  · intro L565 w566 hi567
                    have hE568 := hi567.ex
                    have hE568z := Ex.size hE568
                    obtain ⟨_, _, _, hx569, -, -, -, rfl⟩ := hi567.dep 9 51 rfl rfl
                    exact OpR.op' rfl (Yl.sameI (yl_assign rfl hx569 ⟨fun _ _ => rfl, rfl⟩))
                  · intro fl573 fh574 L570 w571 hp572
                    have hE575 := hp572.ex
                    have hE575z := Ex.size hE575
                    have hx576 := hp572.old 0 _ rfl rfl
                    have hx577 := hp572.old 1 _ rfl rfl
                    have hx578 := hp572.old 5 _ rfl rfl
                    have hx579 := hp572.old 7 _ rfl rfl
                    have hx580 := hp572.old 19 _ rfl rfl
                    have hx581 := hp572.old 20 _ rfl rfl
                    have hx582 := hp572.old 21 _ rfl rfl
                    have hx583 := hp572.old 22 _ rfl rfl
                    have hx584 := hp572.old 25 _ rfl rfl
                    have hx585 := hp572.old 26 _ rfl rfl
                    have hx586 := hp572.old 27 _ rfl rfl
                    have hx587 := hp572.old 28 _ rfl rfl
                    have hx588 := hp572.old 29 _ rfl rfl
                    have hx589 := hp572.old 30 _ rfl rfl
                    have hx590 := hp572.old 31 _ rfl rfl
                    have hx591 := hp572.old 32 _ rfl rfl
                    have hx592 := hp572.old 33 _ rfl rfl
                    have hx593 := hp572.old 34 _ rfl rfl
                    obtain ⟨_, hx594, rfl⟩ := hp572.new 2 44 rfl rfl
                    obtain ⟨_, hx595, rfl⟩ := hp572.new 3 45 rfl rfl
                    obtain ⟨_, hx596, rfl⟩ := hp572.new 4 46 rfl rfl
                    obtain ⟨_, hx597, rfl⟩ := hp572.new 5 47 rfl rfl
                    obtain ⟨_, hx598, rfl⟩ := hp572.new 6 48 rfl rfl
                    obtain ⟨_, hx599, rfl⟩ := hp572.new 7 49 rfl rfl
                    obtain ⟨_, hx600, rfl⟩ := hp572.new 8 50 rfl rfl
                    obtain ⟨_, hx601, rfl⟩ := hp572.new 10 6 rfl rfl
                    refine SeqR.done ?_
                    refine bn ?_
                    refine tn ?_
                    refine CW.sub (Sub.cons (d := 0) hx576 (Sub.cons (d := 1) hx577 (Sub.cons (d := 5) hx578 (Sub.cons (d := 6) hx601 (Sub.cons (d := 7) hx579 (Sub.cons (d := 19) hx580 (Sub.cons (d := 20) hx581 (Sub.cons (d := 21) hx582 (Sub.cons (d := 22) hx583 (Sub.cons (d := 25) hx584 (Sub.cons (d := 26) hx585 (Sub.cons (d := 27) hx586 (Sub.cons (d := 28) hx587 (Sub.cons (d := 29) hx588 (Sub.cons (d := 30) hx589 (Sub.cons (d := 31) hx590 (Sub.cons (d := 32) hx591 (Sub.cons (d := 33) hx592 (Sub.cons (d := 34) hx593 (Sub.cons (d := 44) hx594 (Sub.cons (d := 45) hx595 (Sub.cons (d := 46) hx596 (Sub.cons (d := 47) hx597 (Sub.cons (d := 48) hx598 (Sub.cons (d := 49) hx599 (Sub.cons (d := 50) hx600 (Sub.nil _))))))))))))))))))))))))))) ?_
                    refine CW.region ?_
                    refine SeqR.d1 rfl rfl rfl (yl_move rfl rfl ?_)
                    refine SeqR.d1 rfl rfl rfl (yl_inc rfl rfl rfl (by omega) ?_)
                    refine SeqR.d1 rfl rfl rfl (yl_assign rfl rfl ?_)
                    refine SeqR.done ?_
                    refine tn ?_
                    have hB602 : B_s_l3Bytes_1 p_s p_more k5 k481 (x482) = .cont (true) := by simp only [B_s_l3Bytes_1, hb20, hb21, hb251, hb513, cond_true, cond_false, loopE_done, loopE_ret]
                    have q603 := Ex.trans hf510 hE575
                    exact ⟨p_more.length - (k481 + 1), by omega, k481 + 1, true, rfl, hlt512, rfl, rfl, rfl, rfl, rfl, rfl, rfl, rfl, rfl, rfl, rfl, rfl, rfl, rfl, rfl, rfl, rfl, rfl, rfl, q603, (loopM.cont hlt512 hB602).symm.trans hI490⟩
                · skip
                  refine CW.drawsI 11 (vgetI [DetI (.bool (x482)), DetI (.bool (x482)), DetI (.string (bs (p_s))), DetI (.int .i64 ((k5 : Int))), DetI (.int .u8 (((p_s.getD k5 0).toNat : Int))), DetI (.string (bs (p_more))), DetI (.int .i64 ((k481 : Int))), DetI (.int .u8 (((p_more.getD k481 0).toNat : Int))), DetI (.bool (decide (((p_s.getD k5 0).toNat : Int) = ((p_more.getD k481 0).toNat : Int)))), DetI (.bool (decide (((p_s.getD k5 0).toNat : Int) = ((p_more.getD k481 0).toNat : Int)))), DetI (.bool (decide (((p_s.getD k5 0).toNat : Int) = ((p_more.getD k481 0).toNat : Int))))]) Try.follows rfl rfl rfl rfl rfl rfl (vgetI_stable ⟨StableI.det _, StableI.det _, StableI.det _, StableI.det _, StableI.det _, StableI.det _, StableI.det _, StableI.det _, StableI.det _, StableI.det _, StableI.det _, trivial⟩) ⟨?_, ?_, ?_, ?_, ?_, ?_, ?_, ?_, ?_, ?_, ?_, trivial⟩ ?_
                  · intro L604 w605 hi606
                    have hE607 := hi606.ex
                    have hE607z := Ex.size hE607
                    have hx608 := hi606.old 6 _ rfl rfl
                    exact OpR.op' rfl (Yl.sameI (yl_move rfl hx608 ⟨fun _ _ => rfl, rfl⟩))
                  · intro L609 w610 hi611
                    have hE612 := hi611.ex
                    have hE612z := Ex.size hE612
                    obtain ⟨_, _, _, hx613, -, -, -, rfl⟩ := hi611.dep 0 42 rfl rfl
                    exact OpR.op' rfl (Yl.sameI (yl_move rfl hx613 ⟨fun _ _ => rfl, rfl⟩))
                  · intro L614 w615 hi616
                    have hE617 := hi616.ex
                    have hE617z := Ex.size hE617
                    obtain ⟨_, _, _, hx618, -, -, -, rfl⟩ := hi616.dep 1 43 rfl rfl
                    have hx619 := hi616.old 0 _ rfl rfl
                    exact OpR.want rfl rfl hx618 hb513 (Yl.sameI (yl_move rfl hx619 ⟨fun _ _ => rfl, rfl⟩))
                  · intro L620 w621 hi622
                    have hE623 := hi622.ex
                    have hE623z := Ex.size hE623
                    obtain ⟨_, _, _, hx624, -, -, -, rfl⟩ := hi622.dep 1 43 rfl rfl
                    have hx625 := hi622.old 5 _ rfl rfl
                    exact OpR.want rfl rfl hx624 hb513 (Yl.sameI (yl_move rfl hx625 ⟨fun _ _ => rfl, rfl⟩))
                  · intro L626 w627 hi628
                    have hE629 := hi628.ex
                    have hE629z := Ex.size hE629
                    obtain ⟨_, _, _, hx630, -, -, -, rfl⟩ := hi628.dep 1 43 rfl rfl
                    obtain ⟨_, _, _, hx631, -, -, -, rfl⟩ := hi628.dep 2 44 rfl rfl
                    obtain ⟨_, _, _, hx632, -, -, -, rfl⟩ := hi628.dep 3 45 rfl rfl
                    exact OpR.want rfl rfl hx630 hb513 (Yl.sameI (yl_sindexN Try.un9 (a := p_s) rfl hx631 hx632 (by first | omega | assumption | (simp only [IntKind.wrap_i64] at *; omega)) ⟨fun _ _ => rfl, rfl⟩))
                  · intro L633 w634 hi635
                    have hE636 := hi635.ex
                    have hE636z := Ex.size hE636
                    obtain ⟨_, _, _, hx637, -, -, -, rfl⟩ := hi635.dep 1 43 rfl rfl
                    have hx638 := hi635.old 1 _ rfl rfl
                    exact OpR.want rfl rfl hx637 hb513 (Yl.sameI (yl_move rfl hx638 ⟨fun _ _ => rfl, rfl⟩))
                  · intro L639 w640 hi641
                    have hE642 := hi641.ex
                    have hE642z := Ex.size hE642
                    obtain ⟨_, _, _, hx643, -, -, -, rfl⟩ := hi641.dep 1 43 rfl rfl
                    have hx644 := hi641.old 7 _ rfl rfl
                    exact OpR.want rfl rfl hx643 hb513 (Yl.sameI (yl_move rfl hx644 ⟨fun _ _ => rfl, rfl⟩))
                  · intro L645 w646 hi647
                    have hE648 := hi647.ex
                    have hE648z := Ex.size hE648
                    obtain ⟨_, _, _, hx649, -, -, -, rfl⟩ := hi647.dep 1 43 rfl rfl
                    obtain ⟨_, _, _, hx650, -, -, -, rfl⟩ := hi647.dep 5 47 rfl rfl
                    obtain ⟨_, _, _, hx651, -, -, -, rfl⟩ := hi647.dep 6 48 rfl rfl
                    exact OpR.want rfl rfl hx649 hb513 (Yl.sameI (yl_sindexN Try.un9 (a := p_more) rfl hx650 hx651 (by first | omega | assumption | (simp only [IntKind.wrap_i64] at *; omega)) ⟨fun _ _ => rfl, rfl⟩))
                  · intro L652 w653 hi654
                    have hE655 := hi654.ex
                    have hE655z := Ex.size hE655
                    obtain ⟨_, _, _, hx656, -, -, -, rfl⟩ := hi654.dep 1 43 rfl rfl
                    obtain ⟨_, _, _, hx657, -, -, -, rfl⟩ := hi654.dep 4 46 rfl rfl
                    obtain ⟨_, _, _, hx658, -, -, -, rfl⟩ := hi654.dep 7 49 rfl rfl
                    exact OpR.want rfl rfl hx656 hb513 (Yl.sameI (yl_eql rfl hx657 hx658 ⟨fun _ _ => rfl, rfl⟩))
                  · intro L659 w660 hi661
                    have hE662 := hi661.ex
                    have hE662z := Ex.size hE662
                    obtain ⟨_, _, _, hx663, -, -, -, rfl⟩ := hi661.dep 8 50 rfl rfl
                    obtain ⟨_, _, _, hx664, -, -, -, rfl⟩ := hi661.dep 1 43 rfl rfl
                    exact OpR.op' rfl (Yl.sameI (yl_pick_f rfl hx664 hb513 hx663 ⟨fun _ _ => rfl, rfl⟩))
                  · intro L665 w666 hi667
                    have hE668 := hi667.ex
                    have hE668z := Ex.size hE668
                    obtain ⟨_, _, _, hx669, -, -, -, rfl⟩ := hi667.dep 9 51 rfl rfl
                    exact OpR.op' rfl (Yl.sameI (yl_assign rfl hx669 ⟨fun _ _ => rfl, rfl⟩))
                  · intro fl673 fh674 L670 w671 hp672
                    have hE675 := hp672.ex
                    have hE675z := Ex.size hE675
                    have hx676 := hp672.old 0 _ rfl rfl
                    have hx677 := hp672.old 1 _ rfl rfl
                    have hx678 := hp672.old 5 _ rfl rfl
                    have hx679 := hp672.old 7 _ rfl rfl
                    have hx680 := hp672.old 19 _ rfl rfl
                    have hx681 := hp672.old 20 _ rfl rfl
                    have hx682 := hp672.old 21 _ rfl rfl
                    have hx683 := hp672.old 22 _ rfl rfl
                    have hx684 := hp672.old 25 _ rfl rfl
                    have hx685 := hp672.old 26 _ rfl rfl
                    have hx686 := hp672.old 27 _ rfl rfl
                    have hx687 := hp672.old 28 _ rfl rfl
                    have hx688 := hp672.old 29 _ rfl rfl
                    have hx689 := hp672.old 30 _ rfl rfl
                    have hx690 := hp672.old 31 _ rfl rfl
                    have hx691 := hp672.old 32 _ rfl rfl
                    have hx692 := hp672.old 33 _ rfl rfl
                    have hx693 := hp672.old 34 _ rfl rfl
                    obtain ⟨_, hx694, rfl⟩ := hp672.new 2 44 rfl rfl
                    obtain ⟨_, hx695, rfl⟩ := hp672.new 3 45 rfl rfl
                    obtain ⟨_, hx696, rfl⟩ := hp672.new 4 46 rfl rfl
                    obtain ⟨_, hx697, rfl⟩ := hp672.new 5 47 rfl rfl
                    obtain ⟨_, hx698, rfl⟩ := hp672.new 6 48 rfl rfl
                    obtain ⟨_, hx699, rfl⟩ := hp672.new 7 49 rfl rfl
                    obtain ⟨_, hx700, rfl⟩ := hp672.new 8 50 rfl rfl
                    obtain ⟨_, hx701, rfl⟩ := hp672.new 10 6 rfl rfl
                    refine SeqR.done ?_
                    refine bn ?_
                    refine tn ?_
                    refine CW.sub (Sub.cons (d := 0) hx676 (Sub.cons (d := 1) hx677 (Sub.cons (d := 5) hx678 (Sub.cons (d := 6) hx701 (Sub.cons (d := 7) hx679 (Sub.cons (d := 19) hx680 (Sub.cons (d := 20) hx681 (Sub.cons (d := 21) hx682 (Sub.cons (d := 22) hx683 (Sub.cons (d := 25) hx684 (Sub.cons (d := 26) hx685 (Sub.cons (d := 27) hx686 (Sub.cons (d := 28) hx687 (Sub.cons (d := 29) hx688 (Sub.cons (d := 30) hx689 (Sub.cons (d := 31) hx690 (Sub.cons (d := 32) hx691 (Sub.cons (d := 33) hx692 (Sub.cons (d := 34) hx693 (Sub.cons (d := 44) hx694 (Sub.cons (d := 45) hx695 (Sub.cons (d := 46) hx696 (Sub.cons (d := 47) hx697 (Sub.cons (d := 48) hx698 (Sub.cons (d := 49) hx699 (Sub.cons (d := 50) hx700 (Sub.nil _))))))))))))))))))))))))))) ?_
                    refine CW.region ?_
                    refine SeqR.d1 rfl rfl rfl (yl_move rfl rfl ?_)
                    refine SeqR.d1 rfl rfl rfl (yl_inc rfl rfl rfl (by omega) ?_)
                    refine SeqR.d1 rfl rfl rfl (yl_assign rfl rfl ?_)
                    refine SeqR.done ?_
                    refine tn ?_
                    have hB702 : B_s_l3Bytes_1 p_s p_more k5 k481 (x482) = .cont (decide (((p_s.getD k5 0).toNat : Int) = ((p_more.getD k481 0).toNat : Int))) := by simp only [B_s_l3Bytes_1, hb20, hb21, hb251, hb513, cond_true, cond_false, loopE_done, loopE_ret]
                    have q703 := Ex.trans hf510 hE675
                    exact ⟨p_more.length - (k481 + 1), by omega, k481 + 1, decide (((p_s.getD k5 0).toNat : Int) = ((p_more.getD k481 0).toNat : Int)), rfl, hlt512, rfl, rfl, rfl, rfl, rfl, rfl, rfl, rfl, rfl, rfl, rfl, rfl, rfl, rfl, rfl, rfl, rfl, rfl, rfl, q703, (loopM.cont hlt512 hB702).symm.trans hI490⟩
              · skip
                refine CW.seq ?_
                refine CW.seq ?_
                refine CW.region ?_
                refine SeqR.d1 rfl rfl rfl (yl_move rfl rfl ?_)
                refine SeqR.d1 rfl rfl rfl (yl_move rfl rfl ?_)
                refine SeqR.d1 rfl rfl rfl (yl_slen Try.un9 (a := p_more) rfl rfl ?_)
                refine SeqR.d1 rfl rfl rfl (yl_lss rfl rfl rfl ?_)
                refine SeqR.done ?_
                refine tn ?_
                refine CW.cond_f rfl (lt_f hlt512) ?_
                refine CW.exit ?_
                refine tx ?_
                refine tx ?_
                have hL704 : loopM (B_s_l3Bytes_1 p_s p_more k5) (p_more.length - 0) 0 (false) = .done (x482) := hI490.symm.trans (loopM.stop hlt512)
                refine bx ?_
                refine tn ?_
                refine CW.seq ?_
                refine CW.region ?_
                refine SeqR.d1 rfl rfl rfl (yl_move rfl rfl ?_)
                refine SeqR.d1 rfl rfl rfl (yl_not rfl rfl ?_)
                refine SeqR.done ?_
                refine tn ?_
                refine bcase (x482) (fun hb705 => ?_) (fun hb705 => ?_)
                · skip
                  refine CW.cond_f rfl (not_t hb705) ?_
                  refine CW.skip ?_
                  refine bn ?_
                  refine tn ?_
                  refine CW.region ?_
                  refine SeqR.d1 rfl rfl rfl (yl_move rfl rfl ?_)
                  refine SeqR.d1 rfl rfl rfl (yl_inc rfl rfl rfl (by omega) ?_)
                  refine SeqR.d1 rfl rfl rfl (yl_assign rfl rfl ?_)
                  refine SeqR.done ?_
                  refine tn ?_
                  have hB706 : B_s_l3Bytes_0 p_s p_more k5 () = .cont () := by simp only [B_s_l3Bytes_0, hb20, hb21, hb251, hb705, hL704, cond_true, cond_false, loopE_done, loopE_ret]
                  exact ⟨p_s.length - (k5 + 1), by omega, k5 + 1, rfl, hlt19, rfl, rfl, rfl, hf510, (loopM.cont hlt19 hB706).symm.trans hI13⟩
                · skip
                  refine CW.cond_t rfl (not_f hb705) ?_
                  refine CW.seq ?_
                  refine CW.region ?_
                  refine SeqR.d1 rfl rfl rfl (yl_assign rfl rfl ?_)
                  refine SeqR.done ?_
                  refine tn ?_
                  refine CW.ret ?_
                  refine br ?_
                  refine tr ?_
                  refine tr ?_
                  have hB708 : B_s_l3Bytes_0 p_s p_more k5 () = .ret false := by simp only [B_s_l3Bytes_0, hb20, hb21, hb251, hb705, hL704, cond_true, cond_false, loopE_done, loopE_ret]
                  have hL707 : loopM (B_s_l3Bytes_0 p_s p_more) (p_s.length - 0) 0 () = .ret false := hI13.symm.trans (loopM.ret hlt19 hB708)
                  refine br ?_
                  refine tr ?_
                  refine rr rfl (.cons rfl .nil) ?_
                  have hM709 : (s_l3Bytes p_s p_more) = (false) := by simp only [s_l3Bytes, hb20, hb21, hb251, hb705, hL704, hL707, cond_true, cond_false, loopE_done, loopE_ret]
                  rw [hM709]
                  exact ⟨rfl, hf510⟩
      · have hb20p := dec_f hb20
        refine SeqR.z rfl rfl rfl rfl rfl hb20 ?_
        refine SeqR.z rfl rfl rfl rfl rfl hb20 ?_
        refine SeqR.z rfl rfl rfl rfl rfl hb20 ?_
        refine SeqR.z rfl rfl rfl rfl rfl hb20 ?_
        refine SeqR.d1 rfl rfl rfl (yl_pick_f rfl rfl hb20 rfl ?_)
        refine SeqR.d1 rfl rfl rfl (yl_move rfl rfl ?_)
        refine SeqR.y rfl rfl rfl rfl rfl rfl (yl_move rfl rfl ?_)
        refine SeqR.y rfl rfl rfl rfl rfl rfl (yl_move rfl rfl ?_)
        refine SeqR.y rfl rfl rfl rfl rfl rfl (yl_sindexN Try.un9 (a := p_s) rfl rfl rfl (by first | omega | assumption | (simp only [IntKind.wrap_i64] at *; omega)) ?_)
        refine SeqR.y rfl rfl rfl rfl rfl rfl (yl_geq rfl rfl rfl ?_)
        refine SeqR.y rfl rfl rfl rfl rfl rfl (yl_move rfl rfl ?_)
        refine bcase (decide (48 ≤ ((p_s.getD k5 0).toNat : Int))) (fun hb710 => ?_) (fun hb710 => ?_)
        · have hb710p := dec_t hb710
          refine SeqR.y rfl rfl rfl rfl rfl hb710 (yl_move rfl rfl ?_)
          refine SeqR.y rfl rfl rfl rfl rfl hb710 (yl_move rfl rfl ?_)
          refine SeqR.y rfl rfl rfl rfl rfl hb710 (yl_sindexN Try.un9 (a := p_s) rfl rfl rfl (by first | omega | assumption | (simp only [IntKind.wrap_i64] at *; omega)) ?_)
          refine SeqR.y rfl rfl rfl rfl rfl hb710 (yl_leq rfl rfl rfl ?_)
          refine SeqR.y rfl rfl rfl rfl rfl rfl (yl_pick_t rfl rfl hb710 rfl ?_)
          refine SeqR.d1 rfl rfl rfl (yl_pick_f rfl rfl rfl rfl ?_)
          refine SeqR.d1 rfl rfl rfl (yl_assign rfl rfl ?_)
          refine SeqR.done ?_
          refine tn ?_
          refine CW.seq ?_
          refine CW.seq ?_
          refine CW.region ?_
          refine SeqR.d1 rfl rfl rfl (yl_assign rfl rfl ?_)
          refine SeqR.done ?_
          refine tn ?_
          refine CW.block ?_
          refine CW.loop (fun m713 L714 w715 => ∃ (k711 : Nat) (x712 : Bool), m713 = p_more.length - k711 ∧ k711 ≤ p_more.length ∧ lkp L714 0 = some (.string (bs (p_s))) ∧ lkp L714 1 = some (.string (bs (p_more))) ∧ lkp L714 5 = some (.int .i64 ((k5 : Int))) ∧ lkp L714 6 = some (.bool (x712)) ∧ lkp L714 7 = some (.int .i64 ((k711 : Int))) ∧ lkp L714 19 = some (undef) ∧ lkp L714 20 = some (undef) ∧ lkp L714 21 = some (undef) ∧ lkp L714 22 = some (undef) ∧ lkp L714 25 = some (.string (bs (p_s))) ∧ lkp L714 26 = some (.int .i64 ((k5 : Int))) ∧ lkp L714 27 = some (.int .u8 (((p_s.getD k5 0).toNat : Int))) ∧ lkp L714 28 = some (.bool (decide (48 ≤ ((p_s.getD k5 0).toNat : Int)))) ∧ lkp L714 29 = some (.bool (decide (48 ≤ ((p_s.getD k5 0).toNat : Int)))) ∧ lkp L714 30 = some (.string (bs (p_s))) ∧ lkp L714 31 = some (.int .i64 ((k5 : Int))) ∧ lkp L714 32 = some (.int .u8 (((p_s.getD k5 0).toNat : Int))) ∧ lkp L714 33 = some (.bool (decide (((p_s.getD k5 0).toNat : Int) ≤ 57))) ∧ lkp L714 34 = some (.bool (decide (((p_s.getD k5 0).toNat : Int) ≤ 57))) ∧ Ex w w715 ∧ loopM (B_s_l3Bytes_1 p_s p_more k5) (p_more.length - k711) k711 (x712) = loopM (B_s_l3Bytes_1 p_s p_more k5) (p_more.length - 0) 0 (decide (((p_s.getD k5 0).toNat : Int) ≤ 57))) (p_more.length - 0) ?_ ?_
          · exact ⟨0, decide (((p_s.getD k5 0).toNat : Int) ≤ 57), rfl, Nat.zero_le _, rfl, rfl, rfl, rfl, rfl, rfl, rfl, rfl, rfl, rfl, rfl, rfl, rfl, rfl, rfl, rfl, rfl, rfl, rfl, hf17, rfl⟩
          · rintro m716 L717 w718 ⟨k711, x712, rfl, hk719, hl721, hl722, hl723, hl724, hl725, hl726, hl727, hl728, hl729, hl730, hl731, hl732, hl733, hl734, hl735, hl736, hl737, hl738, hl739, hf740, hI720⟩
            refine CW.sub (Sub.cons hl721 (Sub.cons hl722 (Sub.cons hl723 (Sub.cons hl724 (Sub.cons hl725 (Sub.cons hl726 (Sub.cons hl727 (Sub.cons hl728 (Sub.cons hl729 (Sub.cons hl730 (Sub.cons hl731 (Sub.cons hl732 (Sub.cons hl733 (Sub.cons hl734 (Sub.cons hl735 (Sub.cons hl736 (Sub.cons hl737 (Sub.cons hl738 (Sub.cons hl739 (Sub.nil _)))))))))))))))))))) ?_
            have hf740z := Ex.size hf740
            have hbg741 : p_more.length ≤ 1073741824 := o2
            rcases Nat.lt_or_ge k711 p_more.length with hlt742 | hlt742
            · skip
              refine CW.seq ?_
              refine CW.seq ?_
              refine CW.region ?_
              refine SeqR.d1 rfl rfl rfl (yl_move rfl rfl ?_)
              refine SeqR.d1 rfl rfl rfl (yl_move rfl rfl ?_)
              refine SeqR.d1 rfl rfl rfl (yl_slen Try.un9 (a := p_more) rfl rfl ?_)
              refine SeqR.d1 rfl rfl rfl (yl_lss rfl rfl rfl ?_)
              refine SeqR.done ?_
              refine tn ?_
              refine CW.cond_t rfl (lt_t hlt742) ?_
              refine CW.skip ?_
              refine tn ?_
              refine CW.seq ?_
              refine CW.block ?_
              refine bcase (x712) (fun hb743 => ?_) (fun hb743 => ?_)
              · skip
                refine CW.drawsI 11 (vgetI [DetI (.bool (x712)), DetI (.bool (x712)), DetI (undef), DetI (undef), DetI (undef), DetI (undef), DetI (undef), DetI (undef), DetI (undef), DetI (.bool (true)), DetI (.bool (true))]) Try.follows rfl rfl rfl rfl rfl rfl (vgetI_stable ⟨StableI.det _, StableI.det _, StableI.det _, StableI.det _, StableI.det _, StableI.det _, StableI.det _, StableI.det _, StableI.det _, StableI.det _, StableI.det _, trivial⟩) ⟨?_, ?_, ?_, ?_, ?_, ?_, ?_, ?_, ?_, ?_, ?_, trivial⟩ ?_
                · intro L744 w745 hi746
                  have hE747 := hi746.ex
                  have hE747z := Ex.size hE747
                  have hx748 := hi746.old 6 _ rfl rfl
                  exact OpR.op' rfl (Yl.sameI (yl_move rfl hx748 ⟨fun _ _ => rfl, rfl⟩))
                · intro L749 w750 hi751
                  have hE752 := hi751.ex
                  have hE752z := Ex.size hE752
                  obtain ⟨_, _, _, hx753, -, -, -, rfl⟩ := hi751.dep 0 42 rfl rfl
                  exact OpR.op' rfl (Yl.sameI (yl_move rfl hx753 ⟨fun _ _ => rfl, rfl⟩))
                · intro L754 w755 hi756
                  have hE757 := hi756.ex
                  have hE757z := Ex.size hE757
                  obtain ⟨_, _, _, hx758, -, -, -, rfl⟩ := hi756.dep 1 43 rfl rfl
                  exact OpR.skip rfl rfl hx758 hb743 ⟨rfl, Ex.refl _⟩
                · intro L759 w760 hi761
                  have hE762 := hi761.ex
                  have hE762z := Ex.size hE762
                  obtain ⟨_, _, _, hx763, -, -, -, rfl⟩ := hi761.dep 1 43 rfl rfl
                  exact OpR.skip rfl rfl hx763 hb743 ⟨rfl, Ex.refl _⟩
                · intro L764 w765 hi766
                  have hE767 := hi766.ex
                  have hE767z := Ex.size hE767
                  obtain ⟨_, _, _, hx768, -, -, -, rfl⟩ := hi766.dep 1 43 rfl rfl
                  exact OpR.skip rfl rfl hx768 hb743 ⟨rfl, Ex.refl _⟩
                · intro L769 w770 hi771
                  have hE772 := hi771.ex
                  have hE772z := Ex.size hE772
                  obtain ⟨_, _, _, hx773, -, -, -, rfl⟩ := hi771.dep 1 43 rfl rfl
                  exact OpR.skip rfl rfl hx773 hb743 ⟨rfl, Ex.refl _⟩
                · intro L774 w775 hi776
                  have hE777 := hi776.ex
                  have hE777z := Ex.size hE777
                  obtain ⟨_, _, _, hx778, -, -, -, rfl⟩ := hi776.dep 1 43 rfl rfl
                  exact OpR.skip rfl rfl hx778 hb743 ⟨rfl, Ex.refl _⟩
                · intro L779 w780 hi781
                  have hE782 := hi781.ex
                  have hE782z := Ex.size hE782
                  obtain ⟨_, _, _, hx783, -, -, -, rfl⟩ := hi781.dep 1 43 rfl rfl
                  exact OpR.skip rfl rfl hx783 hb743 ⟨rfl, Ex.refl _⟩
                · intro L784 w785 hi786
                  have hE787 := hi786.ex
                  have hE787z := Ex.size hE787
                  obtain ⟨_, _, _, hx788, -, -, -, rfl⟩ := hi786.dep 1 43 rfl rfl
                  exact OpR.skip rfl rfl hx788 hb743 ⟨rfl, Ex.refl _⟩
                · intro L789 w790 hi791
                  have hE792 := hi791.ex
                  have hE792z := Ex.size hE792
                  obtain ⟨_, _, _, hx793, -, -, -, rfl⟩ := hi791.dep 8 50 rfl rfl
                  obtain ⟨_, _, _, hx794, -, -, -, rfl⟩ := hi791.dep 1 43 rfl rfl
                  exact OpR.op' rfl (Yl.sameI (yl_pick_t rfl hx794 hb743 rfl ⟨fun _ _ => rfl, rfl⟩))
                · intro L795 w796 hi797
                  have hE798 := hi797.ex
                  have hE798z := Ex.size hE798
                  obtain ⟨_, _, _, hx799, -, -, -, rfl⟩ := hi797.dep 9 51 rfl rfl
                  exact OpR.op' rfl (Yl.sameI (yl_assign rfl hx799 ⟨fun _ _ => rfl, rfl⟩))
                · intro fl803 fh804 L800 w801 hp802
                  have hE805 := hp802.ex
                  have hE805z := Ex.size hE805
                  have hx806 := hp802.old 0 _ rfl rfl
                  have hx807 := hp802.old 1 _ rfl rfl
                  have hx808 := hp802.old 5 _ rfl rfl
                  have hx809 := hp802.old 7 _ rfl rfl
                  have hx810 := hp802.old 19 _ rfl rfl
                  have hx811 := hp802.old 20 _ rfl rfl
                  have hx812 := hp802.old 21 _ rfl rfl
                  have hx813 := hp802.old 22 _ rfl rfl
                  have hx814 := hp802.old 25 _ rfl rfl
                  have hx815 := hp802.old 26 _ rfl rfl
                  have hx816 := hp802.old 27 _ rfl rfl
                  have hx817 := hp802.old 28 _ rfl rfl
                  have hx818 := hp802.old 29 _ rfl rfl
                  have hx819 := hp802.old 30 _ rfl rfl
                  have hx820 := hp802.old 31 _ rfl rfl
                  have hx821 := hp802.old 32 _ rfl rfl
                  have hx822 := hp802.old 33 _ rfl rfl
                  have hx823 := hp802.old 34 _ rfl rfl
                  obtain ⟨_, hx824, rfl⟩ := hp802.new 2 44 rfl rfl
                  obtain ⟨_, hx825, rfl⟩ := hp802.new 3 45 rfl rfl
                  obtain ⟨_, hx826, rfl⟩ := hp802.new 4 46 rfl rfl
                  obtain ⟨_, hx827, rfl⟩ := hp802.new 5 47 rfl rfl
                  obtain ⟨_, hx828, rfl⟩ := hp802.new 6 48 rfl rfl
                  obtain ⟨_, hx829, rfl⟩ := hp802.new 7 49 rfl rfl
                  obtain ⟨_, hx830, rfl⟩ := hp802.new 8 50 rfl rfl
                  obtain ⟨_, hx831, rfl⟩ := hp802.new 10 6 rfl rfl
                  refine SeqR.done ?_
                  refine bn ?_
                  refine tn ?_
                  refine CW.sub (Sub.cons (d := 0) hx806 (Sub.cons (d := 1) hx807 (Sub.cons (d := 5) hx808 (Sub.cons (d := 6) hx831 (Sub.cons (d := 7) hx809 (Sub.cons (d := 19) hx810 (Sub.cons (d := 20) hx811 (Sub.cons (d := 21) hx812 (Sub.cons (d := 22) hx813 (Sub.cons (d := 25) hx814 (Sub.cons (d := 26) hx815 (Sub.cons (d := 27) hx816 (Sub.cons (d := 28) hx817 (Sub.cons (d := 29) hx818 (Sub.cons (d := 30) hx819 (Sub.cons (d := 31) hx820 (Sub.cons (d := 32) hx821 (Sub.cons (d := 33) hx822 (Sub.cons (d := 34) hx823 (Sub.cons (d := 44) hx824 (Sub.cons (d := 45) hx825 (Sub.cons (d := 46) hx826 (Sub.cons (d := 47) hx827 (Sub.cons (d := 48) hx828 (Sub.cons (d := 49) hx829 (Sub.cons (d := 50) hx830 (Sub.nil _))))))))))))))))))))))))))) ?_
                  refine CW.region ?_
                  refine SeqR.d1 rfl rfl rfl (yl_move rfl rfl ?_)
                  refine SeqR.d1 rfl rfl rfl (yl_inc rfl rfl rfl (by omega) ?_)
                  refine SeqR.d1 rfl rfl rfl (yl_assign rfl rfl ?_)
                  refine SeqR.done ?_
                  refine tn ?_
                  have hB832 : B_s_l3Bytes_1 p_s p_more k5 k711 (x712) = .cont (true) := by simp only [B_s_l3Bytes_1, hb20, hb710, hb743, cond_true, cond_false, loopE_done, loopE_ret]
                  have q833 := Ex.trans hf740 hE805
                  exact ⟨p_more.length - (k711 + 1), by omega, k711 + 1, true, rfl, hlt742, rfl, rfl, rfl, rfl, rfl, rfl, rfl, rfl, rfl, rfl, rfl, rfl, rfl, rfl, rfl, rfl, rfl, rfl, rfl, q833, (loopM.cont hlt742 hB832).symm.trans hI720⟩
              · skip
                refine CW.drawsI 11 (vgetI [DetI (.bool (x712)), DetI (.bool (x712)), DetI (.string (bs (p_s))), DetI (.int .i64 ((k5 : Int))), DetI (.int .u8 (((p_s.getD k5 0).toNat : Int))), DetI (.string (bs (p_more))), DetI (.int .i64 ((k711 : Int))), DetI (.int .u8 (((p_more.getD k711 0).toNat : Int))), DetI (.bool (decide (((p_s.getD k5 0).toNat : Int) = ((p_more.getD k711 0).toNat : Int)))), DetI (.bool (decide (((p_s.getD k5 0).toNat : Int) = ((p_more.getD k711 0).toNat : Int)))), DetI (.bool (decide (((p_s.getD k5 0).toNat : Int) = ((p_more.getD k711 0).toNat : Int))))]) Try.follows rfl rfl rfl rfl rfl rfl (vgetI_stable ⟨StableI.det _, StableI.det _, StableI.det _, StableI.det _, StableI.det _, StableI.det _, StableI.det _, StableI.det _, StableI.det _, StableI.det _, StableI.det _, trivial⟩) ⟨?_, ?_, ?_, ?_, ?_, ?_, ?_, ?_, ?_, ?_, ?_, trivial⟩ ?_
                · intro L834 w835 hi836
                  have hE837 := hi836.ex
                  have hE837z := Ex.size hE837
                  have hx838 := hi836.old 6 _ rfl rfl
                  exact OpR.op' rfl (Yl.sameI (yl_move rfl hx838 ⟨fun _ _ => rfl, rfl⟩))
                · intro L839 w840 hi841
                  have hE842 := hi841.ex
                  have hE842z := Ex.size hE842
                  obtain ⟨_, _, _, hx843, -, -, -, rfl⟩ := hi841.dep 0 42 rfl rfl
                  exact OpR.op' rfl (Yl.sameI (yl_move rfl hx843 ⟨fun _ _ => rfl, rfl⟩))
                · intro L844 w845 hi846
                  have hE847 := hi846.ex
                  have hE847z := Ex.size hE847
                  obtain ⟨_, _, _, hx848, -, -, -, rfl⟩ := hi846.dep 1 43 rfl rfl
                  have hx849 := hi846.old 0 _ rfl rfl
                  exact OpR.want rfl rfl hx848 hb743 (Yl.sameI (yl_move rfl hx849 ⟨fun _ _ => rfl, rfl⟩))
                · intro L850 w851 hi852
                  have hE853 := hi852.ex
                  have hE853z := Ex.size hE853
                  obtain ⟨_, _, _, hx854, -, -, -, rfl⟩ := hi852.dep 1 43 rfl rfl
                  have hx855 := hi852.old 5 _ rfl rfl
                  exact OpR.want rfl rfl hx854 hb743 (Yl.sameI (yl_move rfl hx855 ⟨fun _ _ => rfl, rfl⟩))
                · intro L856 w857 hi858
                  have hE859 := hi858.ex
                  have hE859z := Ex.size hE859
                  obtain ⟨_, _, _, hx860, -, -, -, rfl⟩ := hi858.dep 1 43 rfl rfl
                  obtain ⟨_, _, _, hx861, -, -, -, rfl⟩ := hi858.dep 2 44 rfl rfl
                  obtain ⟨_, _, _, hx862, -, -, -, rfl⟩ := hi858.dep 3 45 rfl rfl
                  exact OpR.want rfl rfl hx860 hb743 (Yl.sameI (yl_sindexN Try.un9 (a := p_s) rfl hx861 hx862 (by first | omega | assumption | (simp only [IntKind.wrap_i64] at *; omega)) ⟨fun _ _ => rfl, rfl⟩))
                · intro L863 w864 hi865
                  have hE866 := hi865.ex
                  have hE866z := Ex.size hE866
                  obtain ⟨_, _, _, hx867, -, -, -, rfl⟩ := hi865.dep 1 43 rfl rfl
                  have hx868 := hi865.old 1 _ rfl rfl
                  exact OpR.want rfl rfl hx867 hb743 (Yl.sameI (yl_move rfl hx868 ⟨fun _ _ => rfl, rfl⟩))
                · intro L869 w870 hi871
                  have hE872 := hi871.ex
                  have hE872z := Ex.size hE872
                  obtain ⟨_, _, _, hx873, -, -, -, rfl⟩ := hi871.dep 1 43 rfl rfl
                  have hx874 := hi871.old 7 _ rfl rfl
                  exact OpR.want rfl rfl hx873 hb743 (Yl.sameI (yl_move rfl hx874 ⟨fun _ _ => rfl, rfl⟩))
                · intro L875 w876 hi877
                  have hE878 := hi877.ex
                  have hE878z := Ex.size hE878
                  obtain ⟨_, _, _, hx879, -, -, -, rfl⟩ := hi877.dep 1 43 rfl rfl
                  obtain ⟨_, _, _, hx880, -, -, -, rfl⟩ := hi877.dep 5 47 rfl rfl
                  obtain ⟨_, _, _, hx881, -, -, -, rfl⟩ := hi877.dep 6 48 rfl rfl
                  exact OpR.want rfl rfl hx879 hb743 (Yl.sameI (yl_sindexN Try.un9 (a := p_more) rfl hx880 hx881 (by first | omega | assumption | (simp only [IntKind.wrap_i64] at *; omega)) ⟨fun _ _ => rfl, rfl⟩))
                · intro L882 w883 hi884
                  have hE885 := hi884.ex
                  have hE885z := Ex.size hE885
                  obtain ⟨_, _, _, hx886, -, -, -, rfl⟩ := hi884.dep 1 43 rfl rfl
                  obtain ⟨_, _, _, hx887, -, -, -, rfl⟩ := hi884.dep 4 46 rfl rfl
                  obtain ⟨_, _, _, hx888, -, -, -, rfl⟩ := hi884.dep 7 49 rfl rfl
                  exact OpR.want rfl rfl hx886 hb743 (Yl.sameI (yl_eql rfl hx887 hx888 ⟨fun _ _ => rfl, rfl⟩))
                · intro L889 w890 hi891
                  have hE892 := hi891.ex
                  have hE892z := Ex.size hE892
                  obtain ⟨_, _, _, hx893, -, -, -, rfl⟩ := hi891.dep 8 50 rfl rfl
                  obtain ⟨_, _, _, hx894, -, -, -, rfl⟩ := hi891.dep 1 43 rfl rfl
                  exact OpR.op' rfl (Yl.sameI (yl_pick_f rfl hx894 hb743 hx893 ⟨fun _ _ => rfl, rfl⟩))
                · intro L895 w896 hi897
                  have hE898 := hi897.ex
                  have hE898z := Ex.size hE898
                  obtain ⟨_, _, _, hx899, -, -, -, rfl⟩ := hi897.dep 9 51 rfl rfl
                  exact OpR.op' rfl (Yl.sameI (yl_assign rfl hx899 ⟨fun _ _ => rfl, rfl⟩))
                · intro fl903 fh904 L900 w901 hp902
                  have hE905 := hp902.ex
                  have hE905z := Ex.size hE905
                  have hx906 := hp902.old 0 _ rfl rfl
                  have hx907 := hp902.old 1 _ rfl rfl
                  have hx908 := hp902.old 5 _ rfl rfl
                  have hx909 := hp902.old 7 _ rfl rfl
                  have hx910 := hp902.old 19 _ rfl rfl
                  have hx911 := hp902.old 20 _ rfl rfl
                  have hx912 := hp902.old 21 _ rfl rfl
                  have hx913 := hp902.old 22 _ rfl rfl
                  have hx914 := hp902.old 25 _ rfl rfl
                  have hx915 := hp902.old 26 _ rfl rfl
                  have hx916 := hp902.old 27 _ rfl rfl
                  have hx917 := hp902.old 28 _ rfl rfl
                  have hx918 := hp902.old 29 _ rfl rfl
                  have hx919 := hp902.old 30 _ rfl rfl
                  have hx920 := hp902.old 31 _ rfl rfl
                  have hx921 := hp902.old 32 _ rfl rfl
                  have hx922 := hp902.old 33 _ rfl rfl
                  have hx923 := hp902.old 34 _ rfl rfl
                  obtain ⟨_, hx924, rfl⟩ := hp902.new 2 44 rfl rfl
                  obtain ⟨_, hx925, rfl⟩ := hp902.new 3 45 rfl rfl
                  obtain ⟨_, hx926, rfl⟩ := hp902.new 4 46 rfl rfl
                  obtain ⟨_, hx927, rfl⟩ := hp902.new 5 47 rfl rfl
                  obtain ⟨_, hx928, rfl⟩ := hp902.new 6 48 rfl rfl
                  obtain ⟨_, hx929, rfl⟩ := hp902.new 7 49 rfl rfl
                  obtain ⟨_, hx930, rfl⟩ := hp902.new 8 50 rfl rfl
                  obtain ⟨_, hx931, rfl⟩ := hp902.new 10 6 rfl rfl
                  refine SeqR.done ?_
                  refine bn ?_
                  refine tn ?_
                  refine CW.sub (Sub.cons (d := 0) hx906 (Sub.cons (d := 1) hx907 (Sub.cons (d := 5) hx908 (Sub.cons (d := 6) hx931 (Sub.cons (d := 7) hx909 (Sub.cons (d := 19) hx910 (Sub.cons (d := 20) hx911 (Sub.cons (d := 21) hx912 (Sub.cons (d := 22) hx913 (Sub.cons (d := 25) hx914 (Sub.cons (d := 26) hx915 (Sub.cons (d := 27) hx916 (Sub.cons (d := 28) hx917 (Sub.cons (d := 29) hx918 (Sub.cons (d := 30) hx919 (Sub.cons (d := 31) hx920 (Sub.cons (d := 32) hx921 (Sub.cons (d := 33) hx922 (Sub.cons (d := 34) hx923 (Sub.cons (d := 44) hx924 (Sub.cons (d := 45) hx925 (Sub.cons (d := 46) hx926 (Sub.cons (d := 47) hx927 (Sub.cons (d := 48) hx928 (Sub.cons (d := 49) hx929 (Sub.cons (d := 50) hx930 (Sub.nil _))))))))))))))))))))))))))) ?_
                  refine CW.region ?_
                  refine SeqR.d1 rfl rfl rfl (yl_move rfl rfl ?_)
                  refine SeqR.d1 rfl rfl rfl (yl_inc rfl rfl rfl (by omega) ?_)
                  refine SeqR.d1 rfl rfl rfl (yl_assign rfl rfl ?_)
                  refine SeqR.done ?_
                  refine tn ?_
                  have hB932 : B_s_l3Bytes_1 p_s p_more k5 k711 (x712) = .cont (decide (((p_s.getD k5 0).toNat : Int) = ((p_more.getD k711 0).toNat : Int))) := by simp only [B_s_l3Bytes_1, hb20, hb710, hb743, cond_true, cond_false, loopE_done, loopE_ret]
                  have q933 := Ex.trans hf740 hE905
                  exact ⟨p_more.length - (k711 + 1), by omega, k711 + 1, decide (((p_s.getD k5 0).toNat : Int) = ((p_more.getD k711 0).toNat : Int)), rfl, hlt742, rfl, rfl, rfl, rfl, rfl, rfl, rfl, rfl, rfl, rfl, rfl, rfl, rfl, rfl, rfl, rfl, rfl, rfl, rfl, q933, (loopM.cont hlt742 hB932).symm.trans hI720⟩
            · skip
              refine CW.seq ?_
              refine CW.seq ?_
              refine CW.region ?_
              refine SeqR.d1 rfl rfl rfl (yl_move rfl rfl ?_)
              refine SeqR.d1 rfl rfl rfl (yl_move rfl rfl ?_)
              refine SeqR.d1 rfl rfl rfl (yl_slen Try.un9 (a := p_more) rfl rfl ?_)
              refine SeqR.d1 rfl rfl rfl (yl_lss rfl rfl rfl ?_)
              refine SeqR.done ?_
              refine tn ?_
              refine CW.cond_f rfl (lt_f hlt742) ?_
              refine CW.exit ?_
              refine tx ?_
              refine tx ?_
              have hL934 : loopM (B_s_l3Bytes_1 p_s p_more k5) (p_more.length - 0) 0 (decide (((p_s.getD k5 0).toNat : Int) ≤ 57)) = .done (x712) := hI720.symm.trans (loopM.stop hlt742)
              refine bx ?_
              refine tn ?_
              refine CW.seq ?_
              refine CW.region ?_
              refine SeqR.d1 rfl rfl rfl (yl_move rfl rfl ?_)
              refine SeqR.d1 rfl rfl rfl (yl_not rfl rfl ?_)
              refine SeqR.done ?_
              refine tn ?_
              refine bcase (x712) (fun hb935 => ?_) (fun hb935 => ?_)
              · skip
                refine CW.cond_f rfl (not_t hb935) ?_
                refine CW.skip ?_
                refine bn ?_
                refine tn ?_
                refine CW.region ?_
                refine SeqR.d1 rfl rfl rfl (yl_move rfl rfl ?_)
                refine SeqR.d1 rfl rfl rfl (yl_inc rfl rfl rfl (by omega) ?_)
                refine SeqR.d1 rfl rfl rfl (yl_assign rfl rfl ?_)
                refine SeqR.done ?_
                refine tn ?_
                have hB936 : B_s_l3Bytes_0 p_s p_more k5 () = .cont () := by simp only [B_s_l3Bytes_0, hb20, hb710, hb935, hL934, cond_true, cond_false, loopE_done, loopE_ret]
                exact ⟨p_s.length - (k5 + 1), by omega, k5 + 1, rfl, hlt19, rfl, rfl, rfl, hf740, (loopM.cont hlt19 hB936).symm.trans hI13⟩
              · skip
                refine CW.cond_t rfl (not_f hb935) ?_
                refine CW.seq ?_
                refine CW.region ?_
                refine SeqR.d1 rfl rfl rfl (yl_assign rfl rfl ?_)
                refine SeqR.done ?_
                refine tn ?_
                refine CW.ret ?_
                refine br ?_
                refine tr ?_
                refine tr ?_
                have hB938 : B_s_l3Bytes_0 p_s p_more k5 () = .ret false := by simp only [B_s_l3Bytes_0, hb20, hb710, hb935, hL934, cond_true, cond_false, loopE_done, loopE_ret]
                have hL937 : loopM (B_s_l3Bytes_0 p_s p_more) (p_s.length - 0) 0 () = .ret false := hI13.symm.trans (loopM.ret hlt19 hB938)
                refine br ?_
                refine tr ?_
                refine rr rfl (.cons rfl .nil) ?_
                have hM939 : (s_l3Bytes p_s p_more) = (false) := by simp only [s_l3Bytes, hb20, hb710, hb935, hL934, hL937, cond_true, cond_false, loopE_done, loopE_ret]
                rw [hM939]
                exact ⟨rfl, hf740⟩
        · have hb710p := dec_f hb710
          refine SeqR.z rfl rfl rfl rfl rfl hb710 ?_
          refine SeqR.z rfl rfl rfl rfl rfl hb710 ?_
          refine SeqR.z rfl rfl rfl rfl rfl hb710 ?_
          refine SeqR.z rfl rfl rfl rfl rfl hb710 ?_
          refine SeqR.y rfl rfl rfl rfl rfl rfl (yl_pick_f rfl rfl hb710 rfl ?_)
          refine SeqR.d1 rfl rfl rfl (yl_pick_f rfl rfl rfl rfl ?_)
          refine SeqR.d1 rfl rfl rfl (yl_assign rfl rfl ?_)
          refine SeqR.done ?_
          refine tn ?_
          refine CW.seq ?_
          refine CW.seq ?_
          refine CW.region ?_
          refine SeqR.d1 rfl rfl rfl (yl_assign rfl rfl ?_)
          refine SeqR.done ?_
          refine tn ?_
          refine CW.block ?_
          refine CW.loop (fun m942 L943 w944 => ∃ (k940 : Nat) (x941 : Bool), m942 = p_more.length - k940 ∧ k940 ≤ p_more.length ∧ lkp L943 0 = some (.string (bs (p_s))) ∧ lkp L943 1 = some (.string (bs (p_more))) ∧ lkp L943 5 = some (.int .i64 ((k5 : Int))) ∧ lkp L943 6 = some (.bool (x941)) ∧ lkp L943 7 = some (.int .i64 ((k940 : Int))) ∧ lkp L943 19 = some (undef) ∧ lkp L943 20 = some (undef) ∧ lkp L943 21 = some (undef) ∧ lkp L943 22 = some (undef) ∧ lkp L943 25 = some (.string (bs (p_s))) ∧ lkp L943 26 = some (.int .i64 ((k5 : Int))) ∧ lkp L943 27 = some (.int .u8 (((p_s.getD k5 0).toNat : Int))) ∧ lkp L943 28 = some (.bool (decide (48 ≤ ((p_s.getD k5 0).toNat : Int)))) ∧ lkp L943 29 = some (.bool (decide (48 ≤ ((p_s.getD k5 0).toNat : Int)))) ∧ lkp L943 30 = some (undef) ∧ lkp L943 31 = some (undef) ∧ lkp L943 32 = some (undef) ∧ lkp L943 33 = some (undef) ∧ lkp L943 34 = some (.bool (false)) ∧ Ex w w944 ∧ loopM (B_s_l3Bytes_1 p_s p_more k5) (p_more.length - k940) k940 (x941) = loopM (B_s_l3Bytes_1 p_s p_more k5) (p_more.length - 0) 0 (false)) (p_more.length - 0) ?_ ?_
          · exact ⟨0, false, rfl, Nat.zero_le _, rfl, rfl, rfl, rfl, rfl, rfl, rfl, rfl, rfl, rfl, rfl, rfl, rfl, rfl, rfl, rfl, rfl, rfl, rfl, hf17, rfl⟩
          · rintro m945 L946 w947 ⟨k940, x941, rfl, hk948, hl950, hl951, hl952, hl953, hl954, hl955, hl956, hl957, hl958, hl959, hl960, hl961, hl962, hl963, hl964, hl965, hl966, hl967, hl968, hf969, hI949⟩
            refine CW.sub (Sub.cons hl950 (Sub.cons hl951 (Sub.cons hl952 (Sub.cons hl953 (Sub.cons hl954 (Sub.cons hl955 (Sub.cons hl956 (Sub.cons hl957 (Sub.cons hl958 (Sub.cons hl959 (Sub.cons hl960 (Sub.cons hl961 (Sub.cons hl962 (Sub.cons hl963 (Sub.cons hl964 (Sub.cons hl965 (Sub.cons hl966 (Sub.cons hl967 (Sub.cons hl968 (Sub.nil _)))))))))))))))))))) ?_
            have hf969z := Ex.size hf969
            have hbg970 : p_more.length ≤ 1073741824 := o2
            rcases Nat.lt_or_ge k940 p_more.length with hlt971 | hlt971
            · skip
              refine CW.seq ?_
              refine CW.seq ?_
              refine CW.region ?_
              refine SeqR.d1 rfl rfl rfl (yl_move rfl rfl ?_)
              refine SeqR.d1 rfl rfl rfl (yl_move rfl rfl ?_)
              refine SeqR.d1 rfl rfl rfl (yl_slen Try.un9 (a := p_more) rfl rfl ?_)
              refine SeqR.d1 rfl rfl rfl (yl_lss rfl rfl rfl ?_)
              refine SeqR.done ?_
              refine tn ?_
              refine CW.cond_t rfl (lt_t hlt971) ?_
              refine CW.skip ?_
              refine tn ?_
              refine CW.seq ?_
              refine CW.block ?_
              refine bcase (x941) (fun hb972 => ?_) (fun hb972 => ?_)
              · skip
                refine CW.drawsI 11 (vgetI [DetI (.bool (x941)), DetI (.bool (x941)), DetI (undef), DetI (undef), DetI (undef), DetI (undef), DetI (undef), DetI (undef), DetI (undef), DetI (.bool (true)), DetI (.bool (true))]) Try.follows rfl rfl rfl rfl rfl rfl (vgetI_stable ⟨StableI.det _, StableI.det _, StableI.det _, StableI.det _, StableI.det _, StableI.det _, StableI.det _, StableI.det _, StableI.det _, StableI.det _, StableI.det _, trivial⟩) ⟨?_, ?_, ?_, ?_, ?_, ?_, ?_, ?_, ?_, ?_, ?_, trivial⟩ ?_
                · intro L973 w974 hi975
                  have hE976 := hi975.ex
                  have hE976z := Ex.size hE976
                  have hx977 := hi975.old 6 _ rfl rfl
                  exact OpR.op' rfl (Yl.sameI (yl_move rfl hx977 ⟨fun _ _ => rfl, rfl⟩))
                · intro L978 w979 hi980
                  have hE981 := hi980.ex
                  have hE981z := Ex.size hE981
                  obtain ⟨_, _, _, hx982, -, -, -, rfl⟩ := hi980.dep 0 42 rfl rfl
                  exact OpR.op' rfl (Yl.sameI (yl_move rfl hx982 ⟨fun _ _ => rfl, rfl⟩))
                · intro L983 w984 hi985
                  have hE986 := hi985.ex
                  have hE986z := Ex.size hE986
                  obtain ⟨_, _, _, hx987, -, -, -, rfl⟩ := hi985.dep 1 43 rfl rfl
                  exact OpR.skip rfl rfl hx987 hb972 ⟨rfl, Ex.refl _⟩
                · intro L988 w989 hi990
                  have hE991 := hi990.ex
                  have hE991z := Ex.size hE991
                  obtain ⟨_, _, _, hx992, -, -, -, rfl⟩ := hi990.dep 1 43 rfl rfl
                  exact OpR.skip rfl rfl hx992 hb972 ⟨rfl, Ex.refl _⟩
                · intro L993 w994 hi995
                  have hE996 := hi995.ex
                  have hE996z := Ex.size hE996
                  obtain ⟨_, _, _, hx997, -, -, -, rfl⟩ := hi995.dep 1 43 rfl rfl
                  exact OpR.skip rfl rfl hx997 hb972 ⟨rfl, Ex.refl _⟩
                · intro L998 w999 hi1000
                  have hE1001 := hi1000.ex
                  have hE1001z := Ex.size hE1001
                  obtain ⟨_, _, _, hx1002, -, -, -, rfl⟩ := hi1000.dep 1 43 rfl rfl
                  exact OpR.skip rfl rfl hx1002 hb972 ⟨rfl, Ex.refl _⟩
                · intro L1003 w1004 hi1005
                  have hE1006 := hi1005.ex
                  have hE1006z := Ex.size hE1006
                  obtain ⟨_, _, _, hx1007, -, -, -, rfl⟩ := hi1005.dep 1 43 rfl rfl
                  exact OpR.skip rfl rfl hx1007 hb972 ⟨rfl, Ex.refl _⟩
                · intro L1008 w1009 hi1010
                  have hE1011 := hi1010.ex
                  have hE1011z := Ex.size hE1011
                  obtain ⟨_, _, _, hx1012, -, -, -, rfl⟩ := hi1010.dep 1 43 rfl rfl
                  exact OpR.skip rfl rfl hx1012 hb972 ⟨rfl, Ex.refl _⟩
                · intro L1013 w1014 hi1015
                  have hE1016 := hi1015.ex
                  have hE1016z := Ex.size hE1016
                  obtain ⟨_, _, _, hx1017, -, -, -, rfl⟩ := hi1015.dep 1 43 rfl rfl
                  exact OpR.skip rfl rfl hx1017 hb972 ⟨rfl, Ex.refl _⟩
                · intro L1018 w1019 hi1020
                  have hE1021 := hi1020.ex
                  have hE1021z := Ex.size hE1021
                  obtain ⟨_, _, _, hx1022, -, -, -, rfl⟩ := hi1020.dep 8 50 rfl rfl
                  obtain ⟨_, _, _, hx1023, -, -, -, rfl⟩ := hi1020.dep 1 43 rfl rfl
                  exact OpR.op' rfl (Yl.sameI (yl_pick_t rfl hx1023 hb972 rfl ⟨fun _ _ => rfl, rfl⟩))
                · intro L1024 w1025 hi1026
                  have hE1027 := hi1026.ex
                  have hE1027z := Ex.size hE1027
                  obtain ⟨_, _, _, hx1028, -, -, -, rfl⟩ := hi1026.dep 9 51 rfl rfl
                  exact OpR.op' rfl (Yl.sameI (yl_assign rfl hx1028 ⟨fun _ _ => rfl, rfl⟩))
                · intro fl1032 fh1033 L1029 w1030 hp1031
                  have hE1034 := hp1031.ex
                  have hE1034z := Ex.size hE1034
                  have hx1035 := hp1031.old 0 _ rfl rfl
                  have hx1036 := hp1031.old 1 _ rfl rfl
                  have hx1037 := hp1031.old 5 _ rfl rfl
                  have hx1038 := hp1031.old 7 _ rfl rfl
                  have hx1039 := hp1031.old 19 _ rfl rfl
                  have hx1040 := hp1031.old 20 _ rfl rfl
                  have hx1041 := hp1031.old 21 _ rfl rfl
                  have hx1042 := hp1031.old 22 _ rfl rfl
                  have hx1043 := hp1031.old 25 _ rfl rfl
                  have hx1044 := hp1031.old 26 _ rfl rfl
                  have hx1045 := hp1031.old 27 _ rfl rfl
                  have hx1046 := hp1031.old 28 _ rfl rfl
                  have hx1047 := hp1031.old 29 _ rfl rfl
                  have hx1048 := hp1031.old 30 _ rfl rfl
                  have hx1049 := hp1031.old 31 _ rfl rfl
                  have hx1050 := hp1031.old 32 _ rfl rfl
                  have hx1051 := hp1031.old 33 _ rfl rfl
                  have hx1052 := hp1031.old 34 _ rfl rfl
                  obtain ⟨_, hx1053, rfl⟩ := hp1031.new 2 44 rfl rfl
                  obtain ⟨_, hx1054, rfl⟩ := hp1031.new 3 45 rfl rfl
                  obtain ⟨_, hx1055, rfl⟩ := hp1031.new 4 46 rfl rfl
                  obtain ⟨_, hx1056, rfl⟩ := hp1031.new 5 47 rfl rfl
                  obtain ⟨_, hx1057, rfl⟩ := hp1031.new 6 48 rfl rfl
                  obtain ⟨_, hx1058, rfl⟩ := hp1031.new 7 49 rfl rfl
                  obtain ⟨_, hx1059, rfl⟩ := hp1031.new 8 50 rfl rfl
                  obtain ⟨_, hx1060, rfl⟩ := hp1031.new 10 6 rfl rfl
                  refine SeqR.done ?_
                  refine bn ?_
                  refine tn ?_
                  refine CW.sub (Sub.cons (d := 0) hx1035 (Sub.cons (d := 1) hx1036 (Sub.cons (d := 5) hx1037 (Sub.cons (d := 6) hx1060 (Sub.cons (d := 7) hx1038 (Sub.cons (d := 19) hx1039 (Sub.cons (d := 20) hx1040 (Sub.cons (d := 21) hx1041 (Sub.cons (d := 22) hx1042 (Sub.cons (d := 25) hx1043 (Sub.cons (d := 26) hx1044 (Sub.cons (d := 27) hx1045 (Sub.cons (d := 28) hx1046 (Sub.cons (d := 29) hx1047 (Sub.cons (d := 30) hx1048 (Sub.cons (d := 31) hx1049 (Sub.cons (d := 32) hx1050 (Sub.cons (d := 33) hx1051 (Sub.cons (d := 34) hx1052 (Sub.cons (d := 44) hx1053 (Sub.cons (d := 45) hx1054 (Sub.cons (d := 46) hx1055 (Sub.cons (d := 47) hx1056 (Sub.cons (d := 48) hx1057 (Sub.cons (d := 49) hx1058 (Sub.cons (d := 50) hx1059 (Sub.nil _))))))))))))))))))))))))))) ?_
                  refine CW.region ?_
                  refine SeqR.d1 rfl rfl rfl (yl_move rfl rfl ?_)
                  refine SeqR.d1 rfl rfl rfl (yl_inc rfl rfl rfl (by omega) ?_)
                  refine SeqR.d1 rfl rfl rfl (yl_assign rfl rfl ?_)
                  refine SeqR.done ?_
                  refine tn ?_
                  have hB1061 : B_s_l3Bytes_1 p_s p_more k5 k940 (x941) = .cont (true) := by simp only [B_s_l3Bytes_1, hb20, hb710, hb972, cond_true, cond_false, loopE_done, loopE_ret]
                  have q1062 := Ex.trans hf969 hE1034
                  exact ⟨p_more.length - (k940 + 1), by omega, k940 + 1, true, rfl, hlt971, rfl, rfl, rfl, rfl, rfl, rfl, rfl, rfl, rfl, rfl, rfl, rfl, rfl, rfl, rfl, rfl, rfl, rfl, rfl, q1062, (loopM.cont hlt971 hB1061).symm.trans hI949⟩
              · skip
                refine CW.drawsI 11 (vgetI [DetI (.bool (x941)), DetI (.bool (x941)), DetI (.string (bs (p_s))), DetI (.int .i64 ((k5 : Int))), DetI (.int .u8 (((p_s.getD k5 0).toNat : Int))), DetI (.string (bs (p_more))), DetI (.int .i64 ((k940 : Int))), DetI (.int .u8 (((p_more.getD k940 0).toNat : Int))), DetI (.bool (decide (((p_s.getD k5 0).toNat : Int) = ((p_more.getD k940 0).toNat : Int)))), DetI (.bool (decide (((p_s.getD k5 0).toNat : Int) = ((p_more.getD k940 0).toNat : Int)))), DetI (.bool (decide (((p_s.getD k5 0).toNat : Int) = ((p_more.getD k940 0).toNat : Int))))]) Try.follows rfl rfl rfl rfl rfl rfl (vgetI_stable ⟨StableI.det _, StableI.det _, StableI.det _, StableI.det _, StableI.det _, StableI.det _, StableI.det _, StableI.det _, StableI.det _, StableI.det _, StableI.det _, trivial⟩) ⟨?_, ?_, ?_, ?_, ?_, ?_, ?_, ?_, ?_, ?_, ?_, trivial⟩ ?_
                · intro L1063 w1064 hi1065
                  have hE1066 := hi1065.ex
                  have hE1066z := Ex.size hE1066
                  have hx1067 := hi1065.old 6 _ rfl rfl
                  exact OpR.op' rfl (Yl.sameI (yl_move rfl hx1067 ⟨fun _ _ => rfl, rfl⟩))
                · intro L1068 w1069 hi1070
                  have hE1071 := hi1070.ex
                  have hE1071z := Ex.size hE1071
                  obtain ⟨_, _, _, hx1072, -, -, -, rfl⟩ := hi1070.dep 0 42 rfl rfl
                  exact OpR.op' rfl (Yl.sameI (yl_move rfl hx1072 ⟨fun _ _ => rfl, rfl⟩))
                · intro L1073 w1074 hi1075
                  have hE1076 := hi1075.ex
                  have hE1076z := Ex.size hE1076
                  obtain ⟨_, _, _, hx1077, -, -, -, rfl⟩ := hi1075.dep 1 43 rfl rfl
                  have hx1078 := hi1075.old 0 _ rfl rfl
                  exact OpR.want rfl rfl hx1077 hb972 (Yl.sameI (yl_move rfl hx1078 ⟨fun _ _ => rfl, rfl⟩))
                · intro L1079 w1080 hi1081
                  have hE1082 := hi1081.ex
                  have hE1082z := Ex.size hE1082
                  obtain ⟨_, _, _, hx1083, -, -, -, rfl⟩ := hi1081.dep 1 43 rfl rfl
                  have hx1084 := hi1081.old 5 _ rfl rfl
                  exact OpR.want rfl rfl hx1083 hb972 (Yl.sameI (yl_move rfl hx1084 ⟨fun _ _ => rfl, rfl⟩))
                · intro L1085 w1086 hi1087
                  have hE1088 := hi1087.ex
                  have hE1088z := Ex.size hE1088
                  obtain ⟨_, _, _, hx1089, -, -, -, rfl⟩ := hi1087.dep 1 43 rfl rfl
                  obtain ⟨_, _, _, hx1090, -, -, -, rfl⟩ := hi1087.dep 2 44 rfl rfl
                  obtain ⟨_, _, _, hx1091, -, -, -, rfl⟩ := hi1087.dep 3 45 rfl rfl
                  exact OpR.want rfl rfl hx1089 hb972 (Yl.sameI (yl_sindexN Try.un9 (a := p_s) rfl hx1090 hx1091 (by first | omega | assumption | (simp only [IntKind.wrap_i64] at *; omega)) ⟨fun _ _ => rfl, rfl⟩))
                · intro L1092 w1093 hi1094
                  have hE1095 := hi1094.ex
                  have hE1095z := Ex.size hE1095
                  obtain ⟨_, _, _, hx1096, -, -, -, rfl⟩ := hi1094.dep 1 43 rfl rfl
                  have hx1097 := hi1094.old 1 _ rfl rfl
                  exact OpR.want rfl rfl hx1096 hb972 (Yl.sameI (yl_move rfl hx1097 ⟨fun _ _ => rfl, rfl⟩))
                · intro L1098 w1099 hi1100
                  have hE1101 := hi1100.ex
                  have hE1101z := Ex.size hE1101
                  obtain ⟨_, _, _, hx1102, -, -, -, rfl⟩ := hi1100.dep 1 43 rfl rfl
                  have hx1103 := hi1100.old 7 _ rfl rfl
                  exact OpR.want rfl rfl hx1102 hb972 (Yl.sameI (yl_move rfl hx1103 ⟨fun _ _ => rfl, rfl⟩))
                · intro L1104 w1105 hi1106
                  have hE1107 := hi1106.ex
                  have hE1107z := Ex.size hE1107
                  obtain ⟨_, _, _, hx1108, -, -, -, rfl⟩ := hi1106.dep 1 43 rfl rfl
                  obtain ⟨_, _, _, hx1109, -, -, -, rfl⟩ := hi1106.dep 5 47 rfl rfl
                  obtain ⟨_, _, _, hx1110, -, -, -, rfl⟩ := hi1106.dep 6 48 rfl rfl
                  exact OpR.want rfl rfl hx1108 hb972 (Yl.sameI (yl_sindexN Try.un9 (a := p_more) rfl hx1109 hx1110 (by first | omega | assumption | (simp only [IntKind.wrap_i64] at *; omega)) ⟨fun _ _ => rfl, rfl⟩))
                · intro L1111 w1112 hi1113
                  have hE1114 := hi1113.ex
                  have hE1114z := Ex.size hE1114
                  obtain ⟨_, _, _, hx1115, -, -, -, rfl⟩ := hi1113.dep 1 43 rfl rfl
                  obtain ⟨_, _, _, hx1116, -, -, -, rfl⟩ := hi1113.dep 4 46 rfl rfl
                  obtain ⟨_, _, _, hx1117, -, -, -, rfl⟩ := hi1113.dep 7 49 rfl rfl
                  exact OpR.want rfl rfl hx1115 hb972 (Yl.sameI (yl_eql rfl hx1116 hx1117 ⟨fun _ _ => rfl, rfl⟩))
                · intro L1118 w1119 hi1120
                  have hE1121 := hi1120.ex
                  have hE1121z := Ex.size hE1121
                  obtain ⟨_, _, _, hx1122, -, -, -, rfl⟩ := hi1120.dep 8 50 rfl rfl
                  obtain ⟨_, _, _, hx1123, -, -, -, rfl⟩ := hi1120.dep 1 43 rfl rfl
                  exact OpR.op' rfl (Yl.sameI (yl_pick_f rfl hx1123 hb972 hx1122 ⟨fun _ _ => rfl, rfl⟩))
                · intro L1124 w1125 hi1126
                  have hE1127 := hi1126.ex
                  have hE1127z := Ex.size hE1127
                  obtain ⟨_, _, _, hx1128, -, -, -, rfl⟩ := hi1126.dep 9 51 rfl rfl
                  exact OpR.op' rfl (Yl.sameI (yl_assign rfl hx1128 ⟨fun _ _ => rfl, rfl⟩))
                · intro fl1132 fh1133 L1129 w1130 hp1131
                  have hE1134 := hp1131.ex
                  have hE1134z := Ex.size hE1134
                  have hx1135 := hp1131.old 0 _ rfl rfl
                  have hx1136 := hp1131.old 1 _ rfl rfl
                  have hx1137 := hp1131.old 5 _ rfl rfl
                  have hx1138 := hp1131.old 7 _ rfl rfl
                  have hx1139 := hp1131.old 19 _ rfl rfl
                  have hx1140 := hp1131.old 20 _ rfl rfl
                  have hx1141 := hp1131.old 21 _ rfl rfl
                  have hx1142 := hp1131.old 22 _ rfl rfl
                  have hx1143 := hp1131.old 25 _ rfl rfl
                  have hx1144 := hp1131.old 26 _ rfl rfl
                  have hx1145 := hp1131.old 27 _ rfl rfl
                  have hx1146 := hp1131.old 28 _ rfl rfl
                  have hx1147 := hp1131.old 29 _ rfl rfl
                  have hx1148 := hp1131.old 30 _ rfl rfl
                  have hx1149 := hp1131.old 31 _ rfl rfl
                  have hx1150 := hp1131.old 32 _ rfl rfl
                  have hx1151 := hp1131.old 33 _ rfl rfl
                  have hx1152 := hp1131.old 34 _ rfl rfl
                  obtain ⟨_, hx1153, rfl⟩ := hp1131.new 2 44 rfl rfl
                  obtain ⟨_, hx1154, rfl⟩ := hp1131.new 3 45 rfl rfl
                  obtain ⟨_, hx1155, rfl⟩ := hp1131.new 4 46 rfl rfl
                  obtain ⟨_, hx1156, rfl⟩ := hp1131.new 5 47 rfl rfl
                  obtain ⟨_, hx1157, rfl⟩ := hp1131.new 6 48 rfl rfl
                  obtain ⟨_, hx1158, rfl⟩ := hp1131.new 7 49 rfl rfl
                  obtain ⟨_, hx1159, rfl⟩ := hp1131.new 8 50 rfl rfl
                  obtain ⟨_, hx1160, rfl⟩ := hp1131.new 10 6 rfl rfl
                  refine SeqR.done ?_
                  refine bn ?_
                  refine tn ?_
                  refine CW.sub (Sub.cons (d := 0) hx1135 (Sub.cons (d := 1) hx1136 (Sub.cons (d := 5) hx1137 (Sub.cons (d := 6) hx1160 (Sub.cons (d := 7) hx1138 (Sub.cons (d := 19) hx1139 (Sub.cons (d := 20) hx1140 (Sub.cons (d := 21) hx1141 (Sub.cons (d := 22) hx1142 (Sub.cons (d := 25) hx1143 (Sub.cons (d := 26) hx1144 (Sub.cons (d := 27) hx1145 (Sub.cons (d := 28) hx1146 (Sub.cons (d := 29) hx1147 (Sub.cons (d := 30) hx1148 (Sub.cons (d := 31) hx1149 (Sub.cons (d := 32) hx1150 (Sub.cons (d := 33) hx1151 (Sub.cons (d := 34) hx1152 (Sub.cons (d := 44) hx1153 (Sub.cons (d := 45) hx1154 (Sub.cons (d := 46) hx1155 (Sub.cons (d := 47) hx1156 (Sub.cons (d := 48) hx1157 (Sub.cons (d := 49) hx1158 (Sub.cons (d := 50) hx1159 (Sub.nil _))))))))))))))))))))))))))) ?_
                  refine CW.region ?_
                  refine SeqR.d1 rfl rfl rfl (yl_move rfl rfl ?_)
                  refine SeqR.d1 rfl rfl rfl (yl_inc rfl rfl rfl (by omega) ?_)
                  refine SeqR.d1 rfl rfl rfl (yl_assign rfl rfl ?_)
                  refine SeqR.done ?_
                  refine tn ?_
                  have hB1161 : B_s_l3Bytes_1 p_s p_more k5 k940 (x941) = .cont (decide (((p_s.getD k5 0).toNat : Int) = ((p_more.getD k940 0).toNat : Int))) := by simp only [B_s_l3Bytes_1, hb20, hb710, hb972, cond_true, cond_false, loopE_done, loopE_ret]
                  have q1162 := Ex.trans hf969 hE1134
                  exact ⟨p_more.length - (k940 + 1), by omega, k940 + 1, decide (((p_s.getD k5 0).toNat : Int) = ((p_more.getD k940 0).toNat : Int)), rfl, hlt971, rfl, rfl, rfl, rfl, rfl, rfl, rfl, rfl, rfl, rfl, rfl, rfl, rfl, rfl, rfl, rfl, rfl, rfl, rfl, q1162, (loopM.cont hlt971 hB1161).symm.trans hI949⟩
            · skip
              refine CW.seq ?_
              refine CW.seq ?_
              refine CW.region ?_
              refine SeqR.d1 rfl rfl rfl (yl_move rfl rfl ?_)
              refine SeqR.d1 rfl rfl rfl (yl_move rfl rfl ?_)
              refine SeqR.d1 rfl rfl rfl (yl_slen Try.un9 (a := p_more) rfl rfl ?_)
              refine SeqR.d1 rfl rfl rfl (yl_lss rfl rfl rfl ?_)
              refine SeqR.done ?_
              refine tn ?_
              refine CW.cond_f rfl (lt_f hlt971) ?_
              refine CW.exit ?_
              refine tx ?_
              refine tx ?_
              have hL1163 : loopM (B_s_l3Bytes_1 p_s p_more k5) (p_more.length - 0) 0 (false) = .done (x941) := hI949.symm.trans (loopM.stop hlt971)
              refine bx ?_
              refine tn ?_
              refine CW.seq ?_
              refine CW.region ?_
              refine SeqR.d1 rfl rfl rfl (yl_move rfl rfl ?_)
              refine SeqR.d1 rfl rfl rfl (yl_not rfl rfl ?_)
              refine SeqR.done ?_
              refine tn ?_
              refine bcase (x941) (fun hb1164 => ?_) (fun hb1164 => ?_)
              · skip
                refine CW.cond_f rfl (not_t hb1164) ?_
                refine CW.skip ?_
                refine bn ?_
                refine tn ?_
                refine CW.region ?_
                refine SeqR.d1 rfl rfl rfl (yl_move rfl rfl ?_)
                refine SeqR.d1 rfl rfl rfl (yl_inc rfl rfl rfl (by omega) ?_)
                refine SeqR.d1 rfl rfl rfl (yl_assign rfl rfl ?_)
                refine SeqR.done ?_
                refine tn ?_
                have hB1165 : B_s_l3Bytes_0 p_s p_more k5 () = .cont () := by simp only [B_s_l3Bytes_0, hb20, hb710, hb1164, hL1163, cond_true, cond_false, loopE_done, loopE_ret]
                exact ⟨p_s.length - (k5 + 1), by omega, k5 + 1, rfl, hlt19, rfl, rfl, rfl, hf969, (loopM.cont hlt19 hB1165).symm.trans hI13⟩
              · skip
                refine CW.cond_t rfl (not_f hb1164) ?_
                refine CW.seq ?_
                refine CW.region ?_
                refine SeqR.d1 rfl rfl rfl (yl_assign rfl rfl ?_)
                refine SeqR.done ?_
                refine tn ?_
                refine CW.ret ?_
                refine br ?_
                refine tr ?_
                refine tr ?_
                have hB1167 : B_s_l3Bytes_0 p_s p_more k5 () = .ret false := by simp only [B_s_l3Bytes_0, hb20, hb710, hb1164, hL1163, cond_true, cond_false, loopE_done, loopE_ret]
                have hL1166 : loopM (B_s_l3Bytes_0 p_s p_more) (p_s.length - 0) 0 () = .ret false := hI13.symm.trans (loopM.ret hlt19 hB1167)
                refine br ?_
                refine tr ?_
                refine rr rfl (.cons rfl .nil) ?_
                have hM1168 : (s_l3Bytes p_s p_more) = (false) := by simp only [s_l3Bytes, hb20, hb710, hb1164, hL1163, hL1166, cond_true, cond_false, loopE_done, loopE_ret]
                rw [hM1168]
                exact ⟨rfl, hf969⟩
    · skip
      refine CW.seq ?_
      refine CW.seq ?_
      refine CW.region ?_
      refine SeqR.d1 rfl rfl rfl (yl_move rfl rfl ?_)
      refine SeqR.d1 rfl rfl rfl (yl_move rfl rfl ?_)
      refine SeqR.d1 rfl rfl rfl (yl_slen Try.un9 (a := p_s) rfl rfl ?_)
      refine SeqR.d1 rfl rfl rfl (yl_lss rfl rfl rfl ?_)
      refine SeqR.done ?_
      refine tn ?_
      refine CW.cond_f rfl (lt_f hlt19) ?_
      refine CW.exit ?_
      refine tx ?_
      refine tx ?_
      have hL1169 : loopM (B_s_l3Bytes_0 p_s p_more) (p_s.length - 0) 0 () = .done () := hI13.symm.trans (loopM.stop hlt19)
      refine bx ?_
      refine tn ?_
      refine CW.seq ?_
      refine CW.region ?_
      refine SeqR.d1 rfl rfl rfl (yl_assign rfl rfl ?_)
      refine SeqR.done ?_
      refine tn ?_
      refine CW.ret ?_
      refine rr rfl (.cons rfl .nil) ?_
      have hM1170 : (s_l3Bytes p_s p_more) = (true) := by simp only [s_l3Bytes, hL1169, cond_true, cond_false, loopE_done, loopE_ret]
      rw [hM1170]
      exact ⟨rfl, hf17⟩
set_option maxRecDepth 100000 in
set_option maxHeartbeats 2000000 in
theorem c_s_l3Key {w : World} (p_s : Str) (o1 : okS p_s) : Cal Try.prog 54 #[.string (bs (p_s))] w fun v w' => v = .bool ((s_l3Key p_s)) ∧ Ex w w' := by
  have hol2 : p_s.length ≤ 1073741824 := o1
  refine Cal.of (vs := [.string (bs (p_s))]) Try.func54 rfl Try.ntmps54 rfl ?_
  refine CW.seq ?_
  refine CW.region ?_
  refine SeqR.d1 rfl rfl rfl (yl_assign rfl rfl ?_)
  refine SeqR.done ?_
  refine tn ?_
  refine CW.seq ?_
  refine CW.region ?_
  refine SeqR.d1 rfl rfl rfl (yl_move rfl rfl ?_)
  refine SeqR.d1 rfl rfl rfl (yl_slen Try.un9 (a := p_s) rfl rfl ?_)
  refine SeqR.d1 rfl rfl rfl (yl_call Try.en50 rfl (opvs_cons rfl (opvs_cons rfl (opvs_cons rfl opvs_nil))) (Cal.mono (c_s_l1In (p_s.length : Int) 1 12) ?_))
  rintro v4 w3 ⟨rfl, hE5⟩
  have hE5z := Ex.size hE5
  refine SeqR.d1 rfl rfl rfl (yl_move rfl rfl ?_)
  refine bcase (s_l1In (p_s.length : Int) 1 12) (fun hb6 => ?_) (fun hb6 => ?_)
  · have hb6p := f_l1In hb6
    refine SeqR.y rfl rfl rfl rfl rfl hb6 (yl_move rfl rfl ?_)
    refine SeqR.y rfl rfl rfl rfl rfl hb6 (yl_call Try.en99 rfl (opvs_cons rfl (opvs_cons rfl opvs_nil)) (Cal.mono (c_s_l3Bytes p_s ([46, 47] : Str) o1 (by unfold okS; decide)) ?_))
    rintro v8 w7 ⟨rfl, hE9⟩
    have hE9z := Ex.size hE9
    refine SeqR.d1 rfl rfl rfl (yl_pick_t rfl rfl hb6 rfl ?_)
    refine SeqR.d1 rfl rfl rfl (yl_assign rfl rfl ?_)
    refine SeqR.done ?_
    refine tn ?_
    refine CW.ret ?_
    refine rr rfl (.cons rfl .nil) ?_
    have hM10 : (s_l3Key p_s) = ((s_l3Bytes p_s ([46, 47] : Str))) := by simp only [s_l3Key, hb6, cond_true, cond_false, loopE_done, loopE_ret]
    rw [hM10]
    have q11 := Ex.trans (Ex.refl w) hE5
    have q12 := Ex.trans q11 hE9
    exact ⟨rfl, q12⟩
  · skip
    refine SeqR.z rfl rfl rfl rfl rfl hb6 ?_
    refine SeqR.z rfl rfl rfl rfl rfl hb6 ?_
    refine SeqR.d1 rfl rfl rfl (yl_pick_f rfl rfl hb6 rfl ?_)
    refine SeqR.d1 rfl rfl rfl (yl_assign rfl rfl ?_)
    refine SeqR.done ?_
    refine tn ?_
    refine CW.ret ?_
    refine rr rfl (.cons rfl .nil) ?_
    have hM13 : (s_l3Key p_s) = (false) := by simp only [s_l3Key, hb6, cond_true, cond_false, loopE_done, loopE_ret]
    rw [hM13]
    have q14 := Ex.trans (Ex.refl w) hE5
    exact ⟨rfl, q14⟩
set_option maxRecDepth 100000 in
set_option maxHeartbeats 2000000 in
theorem c_s_GoodFill {w : World} (p_f : DFill) (o1 : ok_Fill p_f) : Cal Try.prog 16 #[.agg #[.string (bs (p_f.Last)), .bool (p_f.Over)]] w fun v w' => v = .bool ((s_GoodFill p_f)) ∧ Ex w w' := by
  have hol2 : p_f.Last.length ≤ 1073741824 := o1
  refine Cal.of (vs := [.agg #[.string (bs (p_f.Last)), .bool (p_f.Over)]]) Try.func16 rfl Try.ntmps16 rfl ?_
  refine CW.seq ?_
  refine CW.region ?_
  refine SeqR.d1 rfl rfl rfl (yl_box (cs := [.string (bs (p_f.Last)), .bool (p_f.Over)]) rfl rfl rfl ?_)
  intro b3 w4 hs5 hz6 hB7 hE8
  refine SeqR.d1 rfl rfl rfl (yl_assign rfl rfl ?_)
  refine SeqR.done ?_
  refine tn ?_
  refine CW.seq ?_
  refine CW.region ?_
  refine SeqR.d1 rfl rfl rfl (yl_fieldAddr Try.fd29_0 rfl rfl ?_)
  refine SeqR.d1 rfl rfl rfl (yl_load1 Try.ty9 rfl rfl ((hB7.cell 0).trans rfl) ?_)
  refine SeqR.d1 rfl rfl rfl (yl_seql (a := p_f.Last) (b := ([] : Str)) rfl rfl rfl ?_)
  refine SeqR.d1 rfl rfl rfl (yl_move rfl rfl ?_)
  refine bcase (p_f.Last == ([] : Str)) (fun hb9 => ?_) (fun hb9 => ?_)
  · skip
    refine SeqR.z rfl rfl rfl rfl rfl hb9 ?_
    refine SeqR.z rfl rfl rfl rfl rfl hb9 ?_
    refine SeqR.z rfl rfl rfl rfl rfl hb9 ?_
    refine SeqR.d1 rfl rfl rfl (yl_pick_t rfl rfl hb9 rfl ?_)
    refine SeqR.d1 rfl rfl rfl (yl_assign rfl rfl ?_)
    refine SeqR.done ?_
    refine tn ?_
    refine CW.ret ?_
    refine rr rfl (.cons rfl .nil) ?_
    have hM10 : (s_GoodFill p_f) = (true) := by simp only [s_GoodFill, hb9, cond_true, cond_false, loopE_done, loopE_ret]
    rw [hM10]
    have q11 := Ex.trans (Ex.refl w) hE8
    exact ⟨rfl, q11⟩
  · skip
    refine SeqR.y rfl rfl rfl rfl rfl hb9 (yl_fieldAddr Try.fd29_0 rfl rfl ?_)
    refine SeqR.y rfl rfl rfl rfl rfl hb9 (yl_load1 Try.ty9 rfl rfl ((hB7.cell 0).trans rfl) ?_)
    refine SeqR.y rfl rfl rfl rfl rfl hb9 (yl_call Try.en54 rfl (opvs_cons rfl opvs_nil) (Cal.mono (c_s_l3Key p_f.Last o1) ?_))
    rintro v13 w12 ⟨rfl, hE14⟩
    have hE14z := Ex.size hE14
    refine SeqR.d1 rfl rfl rfl (yl_pick_f rfl rfl hb9 rfl ?_)
    refine SeqR.d1 rfl rfl rfl (yl_assign rfl rfl ?_)
    refine SeqR.done ?_
    refine tn ?_
    refine CW.ret ?_
    refine rr rfl (.cons rfl .nil) ?_
    have hM15 : (s_GoodFill p_f) = ((s_l3Key p_f.Last)) := by simp only [s_GoodFill, hb9, cond_true, cond_false, loopE_done, loopE_ret]
    rw [hM15]
    have q16 := Ex.trans (Ex.refl w) hE8
    have q17 := Ex.trans q16 hE14
    exact ⟨rfl, q17⟩
set_option maxRecDepth 100000 in
set_option maxHeartbeats 2000000 in
theorem c_l_toFill {w : World} (p_a : DFill) (o1 : ok_Fill p_a) : Cal Try.prog 17 #[.agg #[.string (bs (p_a.Last)), .bool (p_a.Over)]] w fun v w' => v = .agg #[.string (bs (p_a.Last)), .bool (p_a.Over)] ∧ Ex w w' := by
  have hol2 : p_a.Last.length ≤ 1073741824 := o1
  refine Cal.of (vs := [.agg #[.string (bs (p_a.Last)), .bool (p_a.Over)]]) Try.func17 rfl Try.ntmps17 rfl ?_
  refine CW.seq ?_
  refine CW.region ?_
  refine SeqR.d1 rfl rfl rfl (yl_box (cs := [.string (bs (p_a.Last)), .bool (p_a.Over)]) rfl rfl rfl ?_)
  intro b3 w4 hs5 hz6 hB7 hE8
  refine SeqR.d1 rfl rfl rfl (yl_alloc Try.ty29 (cs := [.string (bs (([] : Str))), .bool (false)]) rfl rfl ?_)
  intro b9 w10 hs11 hz12 hB13 hE14
  refine SeqR.done ?_
  refine tn ?_
  refine CW.seq ?_
  refine CW.region ?_
  refine SeqR.d1 rfl rfl rfl (yl_alloc Try.ty29 (cs := [.string (bs (([] : Str))), .bool (false)]) rfl rfl ?_)
  intro b15 w16 hs17 hz18 hB19 hE20
  refine SeqR.done ?_
  refine tn ?_
  refine CW.seq ?_
  refine CW.region ?_
  refine SeqR.d1 rfl rfl rfl (yl_fieldAddr Try.fd26_0 rfl rfl ?_)
  have q21 := Box.ex hB7 hE14
  have q22 := Box.ex q21 hE20
  refine SeqR.d1 rfl rfl rfl (yl_load1 Try.ty9 rfl rfl ((q22.cell 0).trans rfl) ?_)
  refine SeqR.d1 rfl rfl rfl (yl_fieldAddr Try.fd29_0 rfl rfl ?_)
  refine SeqR.u rfl rfl (yl_store (vs := [.string (bs (p_a.Last))]) Try.ty9 rfl rfl rfl rfl rfl rfl hB19 (Nat.le_of_ble_eq_true rfl) ?_)
  intro w23 hB24 hO25
  have hB24 : Box w23 b15 29 [.string (bs (p_a.Last)), .bool (false)] := hB24
  have hO25z := hO25.size
  refine SeqR.done ?_
  refine tn ?_
  refine CW.seq ?_
  refine CW.region ?_
  refine SeqR.d1 rfl rfl rfl (yl_fieldAddr Try.fd26_1 rfl rfl ?_)
  have q26 := Box.only q22 hO25 (by omega)
  refine SeqR.d1 rfl rfl rfl (yl_load1 Try.ty4 rfl rfl ((q26.cell 1).trans rfl) ?_)
  refine SeqR.d1 rfl rfl rfl (yl_fieldAddr Try.fd29_1 rfl rfl ?_)
  refine SeqR.u rfl rfl (yl_store (vs := [.bool (p_a.Over)]) Try.ty4 rfl rfl rfl rfl rfl rfl hB24 (Nat.le_of_ble_eq_true rfl) ?_)
  intro w27 hB28 hO29
  have hB28 : Box w27 b15 29 [.string (bs (p_a.Last)), .bool (p_a.Over)] := hB28
  have hO29z := hO29.size
  refine SeqR.done ?_
  refine tn ?_
  refine CW.seq ?_
  refine CW.region ?_
  refine SeqR.d1 rfl rfl rfl (yl_loadN (cs := [.string (bs (p_a.Last)), .bool (p_a.Over)]) Try.ty29 rfl rfl (hB28.cells (n := 2) rfl) rfl ?_)
  have q30 := Box.ex hB13 hE20
  have q31 := Box.only q30 hO25 (by omega)
  have q32 := Box.only q31 hO29 (by omega)
  refine SeqR.u rfl rfl (yl_store (vs := [.string (bs (p_a.Last)), .bool (p_a.Over)]) Try.ty29 rfl rfl rfl rfl rfl rfl q32 (Nat.le_of_ble_eq_true rfl) ?_)
  intro w33 hB34 hO35
  have hB34 : Box w33 b9 29 [.string (bs (p_a.Last)), .bool (p_a.Over)] := hB34
  have hO35z := hO35.size
  refine SeqR.done ?_
  refine tn ?_
  refine CW.ret ?_
  refine rr rfl (.cons ⟨_, rfl, run_loadN Try.ty29 (cs := [.string (bs (p_a.Last)), .bool (p_a.Over)]) rfl (hB34.cells (n := 2) rfl)⟩ .nil) ?_
  have hM36 : p_a = (p_a) := (to_Fill _).symm.trans <| by simp only [l_toFill, cond_true, cond_false, loopE_done, loopE_ret]
  rw [hM36]
  have q37 := Ex.trans (Ex.refl w) hE8
  have q38 := Ex.trans q37 hE14
  have q39 := Ex.trans q38 hE20
  have q40 := Below.only q39 hO25 (by omega)
  have q41 := Below.only q40 hO29 (by omega)
  have q42 := Below.only q41 hO35 (by omega)
  exact ⟨rfl, q42⟩
set_option maxRecDepth 100000 in
set_option maxHeartbeats 2000000 in
theorem c_i_within {w : World} (p_n : Int) (p_low : Int) (p_high : Int) : Cal Try.prog 56 #[.int .i64 (p_n), .int .i64 (p_low), .int .i64 (p_high)] w fun v w' => v = .bool ((i_within p_n p_low p_high)) ∧ Ex w w' := by
  refine Cal.of (vs := [.int .i64 (p_n), .int .i64 (p_low), .int .i64 (p_high)]) Try.func56 rfl Try.ntmps56 rfl ?_
  refine CW.seq ?_
  refine CW.region ?_
  refine SeqR.d1 rfl rfl rfl (yl_assign rfl rfl ?_)
  refine SeqR.done ?_
  refine tn ?_
  refine CW.seq ?_
  refine CW.region ?_
  refine SeqR.d1 rfl rfl rfl (yl_move rfl rfl ?_)
  refine SeqR.d1 rfl rfl rfl (yl_move rfl rfl ?_)
  refine SeqR.d1 rfl rfl rfl (yl_geq rfl rfl rfl ?_)
  refine SeqR.d1 rfl rfl rfl (yl_move rfl rfl ?_)
  refine bcase (decide (p_low ≤ p_n)) (fun hb1 => ?_) (fun hb1 => ?_)
  · have hb1p := dec_t hb1
    refine SeqR.y rfl rfl rfl rfl rfl hb1 (yl_move rfl rfl ?_)
    refine SeqR.y rfl rfl rfl rfl rfl hb1 (yl_move rfl rfl ?_)
    refine SeqR.y rfl rfl rfl rfl rfl hb1 (yl_leq rfl rfl rfl ?_)
    refine SeqR.d1 rfl rfl rfl (yl_pick_t rfl rfl hb1 rfl ?_)
    refine SeqR.d1 rfl rfl rfl (yl_assign rfl rfl ?_)
    refine SeqR.done ?_
    refine tn ?_
    refine CW.ret ?_
    refine rr rfl (.cons rfl .nil) ?_
    have hM2 : (i_within p_n p_low p_high) = (decide (p_n ≤ p_high)) := by simp only [i_within, hb1, cond_true, cond_false, loopE_done, loopE_ret]
    rw [hM2]
    exact ⟨rfl, (Ex.refl w)⟩
  · have hb1p := dec_f hb1
    refine SeqR.z rfl rfl rfl rfl rfl hb1 ?_
    refine SeqR.z rfl rfl rfl rfl rfl hb1 ?_
    refine SeqR.z rfl rfl rfl rfl rfl hb1 ?_
    refine SeqR.d1 rfl rfl rfl (yl_pick_f rfl rfl hb1 rfl ?_)
    refine SeqR.d1 rfl rfl rfl (yl_assign rfl rfl ?_)
    refine SeqR.done ?_
    refine tn ?_
    refine CW.ret ?_
    refine rr rfl (.cons rfl .nil) ?_
    have hM3 : (i_within p_n p_low p_high) = (false) := by simp only [i_within, hb1, cond_true, cond_false, loopE_done, loopE_ret]
    rw [hM3]
    exact ⟨rfl, (Ex.refl w)⟩
set_option maxRecDepth 100000 in
set_option maxHeartbeats 2000000 in
theorem c_i_isLowerOrDigit {w : World} (p_b : Int) : Cal Try.prog 126 #[.int .u8 (p_b)] w fun v w' => v = .bool ((i_isLowerOrDigit p_b)) ∧ Ex w w' := by
  refine Cal.of (vs := [.int .u8 (p_b)]) Try.func126 rfl Try.ntmps126 rfl ?_
  refine CW.seq ?_
  refine CW.region ?_
  refine SeqR.d1 rfl rfl rfl (yl_assign rfl rfl ?_)
  refine SeqR.done ?_
  refine tn ?_
  refine CW.seq ?_
  refine CW.region ?_
  refine SeqR.d1 rfl rfl rfl (yl_move rfl rfl ?_)
  refine SeqR.d1 rfl rfl rfl (yl_geq rfl rfl rfl ?_)
  refine SeqR.d1 rfl rfl rfl (yl_move rfl rfl ?_)
  refine bcase (decide (97 ≤ p_b)) (fun hb1 => ?_) (fun hb1 => ?_)
  · have hb1p := dec_t hb1
    refine SeqR.y rfl rfl rfl rfl rfl hb1 (yl_move rfl rfl ?_)
    refine SeqR.y rfl rfl rfl rfl rfl hb1 (yl_leq rfl rfl rfl ?_)
    refine SeqR.d1 rfl rfl rfl (yl_pick_t rfl rfl hb1 rfl ?_)
    refine SeqR.d1 rfl rfl rfl (yl_move rfl rfl ?_)
    refine bcase (decide (p_b ≤ 122)) (fun hb2 => ?_) (fun hb2 => ?_)
    · have hb2p := dec_t hb2
      refine SeqR.z rfl rfl rfl rfl rfl hb2 ?_
      refine SeqR.z rfl rfl rfl rfl rfl hb2 ?_
      refine SeqR.z rfl rfl rfl rfl rfl hb2 ?_
      refine SeqR.q rfl rfl rfl rfl rfl ?_
      refine SeqR.q rfl rfl rfl rfl rfl ?_
      refine SeqR.z rfl rfl rfl rfl rfl hb2 ?_
      refine SeqR.d1 rfl rfl rfl (yl_pick_t rfl rfl hb2 rfl ?_)
      refine SeqR.d1 rfl rfl rfl (yl_assign rfl rfl ?_)
      refine SeqR.done ?_
      refine tn ?_
      refine CW.ret ?_
      refine rr rfl (.cons rfl .nil) ?_
      have hM3 : (i_isLowerOrDigit p_b) = (true) := by simp only [i_isLowerOrDigit, hb1, hb2, cond_true, cond_false, loopE_done, loopE_ret]
      rw [hM3]
      exact ⟨rfl, (Ex.refl w)⟩
    · have hb2p := dec_f hb2
      refine SeqR.y rfl rfl rfl rfl rfl hb2 (yl_move rfl rfl ?_)
      refine SeqR.y rfl rfl rfl rfl rfl hb2 (yl_geq rfl rfl rfl ?_)
      refine SeqR.y rfl rfl rfl rfl rfl hb2 (yl_move rfl rfl ?_)
      refine bcase (decide (48 ≤ p_b)) (fun hb4 => ?_) (fun hb4 => ?_)
      · have hb4p := dec_t hb4
        refine SeqR.y rfl rfl rfl rfl rfl hb4 (yl_move rfl rfl ?_)
        refine SeqR.y rfl rfl rfl rfl rfl hb4 (yl_leq rfl rfl rfl ?_)
        refine SeqR.y rfl rfl rfl rfl rfl hb2 (yl_pick_t rfl rfl hb4 rfl ?_)
        refine SeqR.d1 rfl rfl rfl (yl_pick_f rfl rfl hb2 rfl ?_)
        refine SeqR.d1 rfl rfl rfl (yl_assign rfl rfl ?_)
        refine SeqR.done ?_
        refine tn ?_
        refine CW.ret ?_
        refine rr rfl (.cons rfl .nil) ?_
        have hM5 : (i_isLowerOrDigit p_b) = (decide (p_b ≤ 57)) := by simp only [i_isLowerOrDigit, hb1, hb2, hb4, cond_true, cond_false, loopE_done, loopE_ret]
        rw [hM5]
        exact ⟨rfl, (Ex.refl w)⟩
      · have hb4p := dec_f hb4
        refine SeqR.z rfl rfl rfl rfl rfl hb4 ?_
        refine SeqR.z rfl rfl rfl rfl rfl hb4 ?_
        refine SeqR.y rfl rfl rfl rfl rfl hb2 (yl_pick_f rfl rfl hb4 rfl ?_)
        refine SeqR.d1 rfl rfl rfl (yl_pick_f rfl rfl hb2 rfl ?_)
        refine SeqR.d1 rfl rfl rfl (yl_assign rfl rfl ?_)
        refine SeqR.done ?_
        refine tn ?_
        refine CW.ret ?_
        refine rr rfl (.cons rfl .nil) ?_
        have hM6 : (i_isLowerOrDigit p_b) = (false) := by simp only [i_isLowerOrDigit, hb1, hb2, hb4, cond_true, cond_false, loopE_done, loopE_ret]
        rw [hM6]
        exact ⟨rfl, (Ex.refl w)⟩
  · have hb1p := dec_f hb1
    refine SeqR.z rfl rfl rfl rfl rfl hb1 ?_
    refine SeqR.z rfl rfl rfl rfl rfl hb1 ?_
    refine SeqR.d1 rfl rfl rfl (yl_pick_f rfl rfl hb1 rfl ?_)
    refine SeqR.d1 rfl rfl rfl (yl_move rfl rfl ?_)
    refine SeqR.y rfl rfl rfl rfl rfl rfl (yl_move rfl rfl ?_)
    refine SeqR.y rfl rfl rfl rfl rfl rfl (yl_geq rfl rfl rfl ?_)
    refine SeqR.y rfl rfl rfl rfl rfl rfl (yl_move rfl rfl ?_)
    refine bcase (decide (48 ≤ p_b)) (fun hb7 => ?_) (fun hb7 => ?_)
    · have hb7p := dec_t hb7
      refine SeqR.y rfl rfl rfl rfl rfl hb7 (yl_move rfl rfl ?_)
      refine SeqR.y rfl rfl rfl rfl rfl hb7 (yl_leq rfl rfl rfl ?_)
      refine SeqR.y rfl rfl rfl rfl rfl rfl (yl_pick_t rfl rfl hb7 rfl ?_)
      refine SeqR.d1 rfl rfl rfl (yl_pick_f rfl rfl rfl rfl ?_)
      refine SeqR.d1 rfl rfl rfl (yl_assign rfl rfl ?_)
      refine SeqR.done ?_
      refine tn ?_
      refine CW.ret ?_
      refine rr rfl (.cons rfl .nil) ?_
      have hM8 : (i_isLowerOrDigit p_b) = (decide (p_b ≤ 57)) := by simp only [i_isLowerOrDigit, hb1, hb7, cond_true, cond_false, loopE_done, loopE_ret]
      rw [hM8]
      exact ⟨rfl, (Ex.refl w)⟩
    · have hb7p := dec_f hb7
      refine SeqR.z rfl rfl rfl rfl rfl hb7 ?_
      refine SeqR.z rfl rfl rfl rfl rfl hb7 ?_
      refine SeqR.y rfl rfl rfl rfl rfl rfl (yl_pick_f rfl rfl hb7 rfl ?_)
      refine SeqR.d1 rfl rfl rfl (yl_pick_f rfl rfl rfl rfl ?_)
      refine SeqR.d1 rfl rfl rfl (yl_assign rfl rfl ?_)
      refine SeqR.done ?_
      refine tn ?_
      refine CW.ret ?_
      refine rr rfl (.cons rfl .nil) ?_
      have hM9 : (i_isLowerOrDigit p_b) = (false) := by simp only [i_isLowerOrDigit, hb1, hb7, cond_true, cond_false, loopE_done, loopE_ret]
      rw [hM9]
      exact ⟨rfl, (Ex.refl w)⟩
set_option maxRecDepth 100000 in
set_option maxHeartbeats 2000000 in
theorem c_g_internal_stringslite_IndexByte {w : World} (p_s : Str) (p_c : Int) (o1 : okS p_s) : Cal Try.prog 137 #[.string (bs (p_s)), .int .u8 (p_c)] w fun v w' => v = .int .i64 ((g_internal_stringslite_IndexByte p_s p_c)) ∧ Ex w w' := by
  have hol2 : p_s.length ≤ 1073741824 := o1
  refine Cal.of (vs := [.string (bs (p_s)), .int .u8 (p_c)]) Try.func137 rfl Try.ntmps137 rfl ?_
  refine CW.seq ?_
  refine CW.region ?_
  refine SeqR.d1 rfl rfl rfl (yl_assign rfl rfl ?_)
  refine SeqR.done ?_
  refine tn ?_
  refine CW.seq ?_
  refine CW.region ?_
  refine SeqR.d1 rfl rfl rfl (yl_move rfl rfl ?_)
  refine SeqR.d1 rfl rfl rfl (yl_move rfl rfl ?_)
  refine SeqR.d1 rfl rfl rfl (yl_idxB (s := p_s) (c := p_c) Try.ex140 rfl (opvs_cons rfl (opvs_cons rfl opvs_nil)) ?_)
  refine SeqR.d1 rfl rfl rfl (yl_assign rfl rfl ?_)
  refine SeqR.done ?_
  refine tn ?_
  refine CW.ret ?_
  refine rr rfl (.cons rfl .nil) ?_
  have hM3 : (g_internal_stringslite_IndexByte p_s p_c) = (idxB p_s p_c) := by simp only [g_internal_stringslite_IndexByte, cond_true, cond_false, loopE_done, loopE_ret]
  rw [hM3]
  exact ⟨rfl, (Ex.refl w)⟩
set_option maxRecDepth 100000 in
set_option maxHeartbeats 2000000 in
theorem c_g_strings_IndexByte {w : World} (p_s : Str) (p_c : Int) (o1 : okS p_s) : Cal Try.prog 127 #[.string (bs (p_s)), .int .u8 (p_c)] w fun v w' => v = .int .i64 ((g_strings_IndexByte p_s p_c)) ∧ Ex w w' := by
  have hol2 : p_s.length ≤ 1073741824 := o1
  refine Cal.of (vs := [.string (bs (p_s)), .int .u8 (p_c)]) Try.func127 rfl Try.ntmps127 rfl ?_
  refine CW.seq ?_
  refine CW.region ?_
  refine SeqR.d1 rfl rfl rfl (yl_assign rfl rfl ?_)
  refine SeqR.done ?_
  refine tn ?_
  refine CW.seq ?_
  refine CW.region ?_
  refine SeqR.d1 rfl rfl rfl (yl_move rfl rfl ?_)
  refine SeqR.d1 rfl rfl rfl (yl_move rfl rfl ?_)
  refine SeqR.d1 rfl rfl rfl (yl_call Try.en137 rfl (opvs_cons rfl (opvs_cons rfl opvs_nil)) (Cal.mono (c_g_internal_stringslite_IndexByte p_s p_c o1) ?_))
  rintro v4 w3 ⟨rfl, hE5⟩
  have hE5z := Ex.size hE5
  refine SeqR.d1 rfl rfl rfl (yl_assign rfl rfl ?_)
  refine SeqR.done ?_
  refine tn ?_
  refine CW.ret ?_
  refine rr rfl (.cons rfl .nil) ?_
  have hM6 : (g_strings_IndexByte p_s p_c) = ((g_internal_stringslite_IndexByte p_s p_c)) := by simp only [g_strings_IndexByte, cond_true, cond_false, loopE_done, loopE_ret]
  rw [hM6]
  have q7 := Ex.trans (Ex.refl w) hE5
  exact ⟨rfl, q7⟩
set_option maxRecDepth 100000 in
set_option maxHeartbeats 2000000 in
theorem c_i_hasBytes {w : World} (p_s : Str) (p_others : Str) (o1 : okS p_s) (o2 : okS p_others) : Cal Try.prog 100 #[.string (bs (p_s)), .string (bs (p_others))] w fun v w' => v = .bool ((i_hasBytes p_s p_others)) ∧ Ex w w' := by
  have hol3 : p_s.length ≤ 1073741824 := o1
  have hol4 : p_others.length ≤ 1073741824 := o2
  refine Cal.of (vs := [.string (bs (p_s)), .string (bs (p_others))]) Try.func100 rfl Try.ntmps100 rfl ?_
  refine CW.seq ?_
  refine CW.region ?_
  refine SeqR.d1 rfl rfl rfl (yl_assign rfl rfl ?_)
  refine SeqR.done ?_
  refine tn ?_
  refine CW.seq ?_
  refine CW.seq ?_
  refine CW.region ?_
  refine SeqR.d1 rfl rfl rfl (yl_move rfl rfl ?_)
  refine SeqR.d1 rfl rfl rfl (yl_slen Try.un9 (a := p_s) rfl rfl ?_)
  refine SeqR.d1 rfl rfl rfl (yl_move rfl rfl ?_)
  refine SeqR.done ?_
  refine tn ?_
  refine CW.block ?_
  refine CW.loop (fun m6 L7 w8 => ∃ (k5 : Nat), m6 = p_s.length - k5 ∧ k5 ≤ p_s.length ∧ lkp L7 0 = some (.string (bs (p_s))) ∧ lkp L7 1 = some (.string (bs (p_others))) ∧ lkp L7 7 = some (.int .i64 ((p_s.length : Int))) ∧ lkp L7 8 = some (.int .i64 ((k5 : Int))) ∧ Ex w w8 ∧ loopM (B_i_hasBytes_0 p_s p_others) (p_s.length - k5) k5 () = loopM (B_i_hasBytes_0 p_s p_others) (p_s.length - 0) 0 ()) (p_s.length - 0) ?_ ?_
  · exact ⟨0, rfl, Nat.zero_le _, rfl, rfl, rfl, rfl, (Ex.refl w), rfl⟩
  · rintro m9 L10 w11 ⟨k5, rfl, hk12, hl14, hl15, hl16, hl17, hf18, hI13⟩
    refine CW.sub (Sub.cons hl14 (Sub.cons hl15 (Sub.cons hl16 (Sub.cons hl17 (Sub.nil _))))) ?_
    have hf18z := Ex.size hf18
    have hbg19 : p_s.length ≤ 1073741824 := o1
    rcases Nat.lt_or_ge k5 p_s.length with hlt20 | hlt20
    · skip
      refine CW.seq ?_
      refine CW.region ?_
      refine SeqR.d1 rfl rfl rfl (yl_lss rfl rfl rfl ?_)
      refine SeqR.done ?_
      refine tn ?_
      refine CW.seq ?_
      refine CW.cond_t rfl (lt_t hlt20) ?_
      refine CW.skip ?_
      refine tn ?_
      refine CW.seq ?_
      refine CW.block ?_
      refine CW.seq ?_
      refine CW.region ?_
      refine SeqR.d1 rfl rfl rfl (yl_move rfl rfl ?_)
      refine SeqR.d1 rfl rfl rfl (yl_assign rfl rfl ?_)
      refine SeqR.done ?_
      refine tn ?_
      refine CW.seq ?_
      refine CW.region ?_
      refine SeqR.d1 rfl rfl rfl (yl_move rfl rfl ?_)
      refine SeqR.d1 rfl rfl rfl (yl_move rfl rfl ?_)
      refine SeqR.d1 rfl rfl rfl (yl_sindexN Try.un9 (a := p_s) rfl rfl rfl (by first | omega | assumption | (simp only [IntKind.wrap_i64] at *; omega)) ?_)
      refine SeqR.d1 rfl rfl rfl (yl_call Try.en126 rfl (opvs_cons rfl opvs_nil) (Cal.mono (c_i_isLowerOrDigit ((p_s.getD k5 0).toNat : Int)) ?_))
      rintro v22 w21 ⟨rfl, hE23⟩
      have hE23z := Ex.size hE23
      refine SeqR.d1 rfl rfl rfl (yl_not rfl rfl ?_)
      refine SeqR.d1 rfl rfl rfl (yl_move rfl rfl ?_)
      refine bcase (i_isLowerOrDigit ((p_s.getD k5 0).toNat : Int)) (fun hb24 => ?_) (fun hb24 => ?_)
      · skip
        refine SeqR.z rfl rfl rfl rfl rfl (not_t hb24) ?_
        refine SeqR.z rfl rfl rfl rfl rfl (not_t hb24) ?_
        refine SeqR.z rfl rfl rfl rfl rfl (not_t hb24) ?_
        refine SeqR.z rfl rfl rfl rfl rfl (not_t hb24) ?_
        refine SeqR.z rfl rfl rfl rfl rfl (not_t hb24) ?_
        refine SeqR.z rfl rfl rfl rfl rfl (not_t hb24) ?_
        refine SeqR.d1 rfl rfl rfl (yl_pick_f rfl rfl (not_t hb24) rfl ?_)
        refine SeqR.done ?_
        refine tn ?_
        refine CW.cond_f rfl rfl ?_
        refine CW.skip ?_
        refine bn ?_
        refine tn ?_
        refine CW.region ?_
        refine SeqR.d1 rfl rfl rfl (yl_inc rfl rfl rfl (by omega) ?_)
        refine SeqR.d1 rfl rfl rfl (yl_move rfl rfl ?_)
        refine SeqR.done ?_
        refine tn ?_
        have hB25 : B_i_hasBytes_0 p_s p_others k5 () = .cont () := by simp only [B_i_hasBytes_0, hb24, cond_true, cond_false, loopE_done, loopE_ret]
        have q26 := Ex.trans hf18 hE23
        exact ⟨p_s.length - (k5 + 1), by omega, k5 + 1, rfl, hlt20, rfl, rfl, rfl, rfl, q26, (loopM.cont hlt20 hB25).symm.trans hI13⟩
      · skip
        refine SeqR.y rfl rfl rfl rfl rfl (not_f hb24) (yl_move rfl rfl ?_)
        refine SeqR.y rfl rfl rfl rfl rfl (not_f hb24) (yl_move rfl rfl ?_)
        refine SeqR.y rfl rfl rfl rfl rfl (not_f hb24) (yl_move rfl rfl ?_)
        refine SeqR.y rfl rfl rfl rfl rfl (not_f hb24) (yl_sindexN Try.un9 (a := p_s) rfl rfl rfl (by first | omega | assumption | (simp only [IntKind.wrap_i64] at *; omega)) ?_)
        refine SeqR.y rfl rfl rfl rfl rfl (not_f hb24) (yl_call Try.en127 rfl (opvs_cons rfl (opvs_cons rfl opvs_nil)) (Cal.mono (c_g_strings_IndexByte p_others ((p_s.getD k5 0).toNat : Int) o2) ?_))
        rintro v28 w27 ⟨rfl, hE29⟩
        have hE29z := Ex.size hE29
        refine SeqR.y rfl rfl rfl rfl rfl (not_f hb24) (yl_lss rfl rfl rfl ?_)
        refine SeqR.d1 rfl rfl rfl (yl_pick_t rfl rfl (not_f hb24) rfl ?_)
        refine SeqR.done ?_
        refine tn ?_
        refine bcase (decide ((g_strings_IndexByte p_others ((p_s.getD k5 0).toNat : Int)) < 0)) (fun hb30 => ?_) (fun hb30 => ?_)
        · have hb30p := dec_t hb30
          refine CW.cond_t rfl hb30 ?_
          refine CW.seq ?_
          refine CW.region ?_
          refine SeqR.d1 rfl rfl rfl (yl_assign rfl rfl ?_)
          refine SeqR.done ?_
          refine tn ?_
          refine CW.ret ?_
          refine br ?_
          refine tr ?_
          refine tr ?_
          have hB32 : B_i_hasBytes_0 p_s p_others k5 () = .ret false := by simp only [B_i_hasBytes_0, hb24, hb30, cond_true, cond_false, loopE_done, loopE_ret]
          have hL31 : loopM (B_i_hasBytes_0 p_s p_others) (p_s.length - 0) 0 () = .ret false := hI13.symm.trans (loopM.ret hlt20 hB32)
          refine br ?_
          refine tr ?_
          refine rr rfl (.cons rfl .nil) ?_
          have hM33 : (i_hasBytes p_s p_others) = (false) := by simp only [i_hasBytes, hb24, hb30, hL31, cond_true, cond_false, loopE_done, loopE_ret]
          rw [hM33]
          have q34 := Ex.trans hf18 hE23
          have q35 := Ex.trans q34 hE29
          exact ⟨rfl, q35⟩
        · have hb30p := dec_f hb30
          refine CW.cond_f rfl hb30 ?_
          refine CW.skip ?_
          refine bn ?_
          refine tn ?_
          refine CW.region ?_
          refine SeqR.d1 rfl rfl rfl (yl_inc rfl rfl rfl (by omega) ?_)
          refine SeqR.d1 rfl rfl rfl (yl_move rfl rfl ?_)
          refine SeqR.done ?_
          refine tn ?_
          have hB36 : B_i_hasBytes_0 p_s p_others k5 () = .cont () := by simp only [B_i_hasBytes_0, hb24, hb30, cond_true, cond_false, loopE_done, loopE_ret]
          have q37 := Ex.trans hf18 hE23
          have q38 := Ex.trans q37 hE29
          exact ⟨p_s.length - (k5 + 1), by omega, k5 + 1, rfl, hlt20, rfl, rfl, rfl, rfl, q38, (loopM.cont hlt20 hB36).symm.trans hI13⟩
    · skip
      refine CW.seq ?_
      refine CW.region ?_
      refine SeqR.d1 rfl rfl rfl (yl_lss rfl rfl rfl ?_)
      refine SeqR.done ?_
      refine tn ?_
      refine CW.seq ?_
      refine CW.cond_f rfl (lt_f hlt20) ?_
      refine CW.exit ?_
      refine tx ?_
      refine tx ?_
      have hL39 : loopM (B_i_hasBytes_0 p_s p_others) (p_s.length - 0) 0 () = .done () := hI13.symm.trans (loopM.stop hlt20)
      refine bx ?_
      refine tn ?_
      refine CW.seq ?_
      refine CW.region ?_
      refine SeqR.d1 rfl rfl rfl (yl_assign rfl rfl ?_)
      refine SeqR.done ?_
      refine tn ?_
      refine CW.ret ?_
      refine rr rfl (.cons rfl .nil) ?_
      have hM40 : (i_hasBytes p_s p_others) = (true) := by simp only [i_hasBytes, hL39, cond_true, cond_false, loopE_done, loopE_ret]
      rw [hM40]
      exact ⟨rfl, hf18⟩
set_option maxRecDepth 100000 in
set_option maxHeartbeats 2000000 in
theorem c_i_GoodKey {w : World} (p_s : Str) (o1 : okS p_s) : Cal Try.prog 55 #[.string (bs (p_s))] w fun v w' => v = .bool ((i_GoodKey p_s)) ∧ Ex w w' := by
  have hol2 : p_s.length ≤ 1073741824 := o1
  refine Cal.of (vs := [.string (bs (p_s))]) Try.func55 rfl Try.ntmps55 rfl ?_
  refine CW.seq ?_
  refine CW.region ?_
  refine SeqR.d1 rfl rfl rfl (yl_assign rfl rfl ?_)
  refine SeqR.done ?_
  refine tn ?_
  refine CW.seq ?_
  refine CW.region ?_
  refine SeqR.d1 rfl rfl rfl (yl_move rfl rfl ?_)
  refine SeqR.d1 rfl rfl rfl (yl_slen Try.un9 (a := p_s) rfl rfl ?_)
  refine SeqR.d1 rfl rfl rfl (yl_call Try.en56 rfl (opvs_cons rfl (opvs_cons rfl (opvs_cons rfl opvs_nil))) (Cal.mono (c_i_within (p_s.length : Int) 1 12) ?_))
  rintro v4 w3 ⟨rfl, hE5⟩
  have hE5z := Ex.size hE5
  refine SeqR.d1 rfl rfl rfl (yl_move rfl rfl ?_)
  refine bcase (i_within (p_s.length : Int) 1 12) (fun hb6 => ?_) (fun hb6 => ?_)
  · have hb6p := f_within hb6
    refine SeqR.y rfl rfl rfl rfl rfl hb6 (yl_move rfl rfl ?_)
    refine SeqR.y rfl rfl rfl rfl rfl hb6 (yl_call Try.en100 rfl (opvs_cons rfl (opvs_cons rfl opvs_nil)) (Cal.mono (c_i_hasBytes p_s ([46, 47] : Str) o1 (by unfold okS; decide)) ?_))
    rintro v8 w7 ⟨rfl, hE9⟩
    have hE9z := Ex.size hE9
    refine SeqR.d1 rfl rfl rfl (yl_pick_t rfl rfl hb6 rfl ?_)
    refine SeqR.d1 rfl rfl rfl (yl_assign rfl rfl ?_)
    refine SeqR.done ?_
    refine tn ?_
    refine CW.ret ?_
    refine rr rfl (.cons rfl .nil) ?_
    have hM10 : (i_GoodKey p_s) = ((i_hasBytes p_s ([46, 47] : Str))) := by simp only [i_GoodKey, hb6, cond_true, cond_false, loopE_done, loopE_ret]
    rw [hM10]
    have q11 := Ex.trans (Ex.refl w) hE5
    have q12 := Ex.trans q11 hE9
    exact ⟨rfl, q12⟩
  · skip
    refine SeqR.z rfl rfl rfl rfl rfl hb6 ?_
    refine SeqR.z rfl rfl rfl rfl rfl hb6 ?_
    refine SeqR.d1 rfl rfl rfl (yl_pick_f rfl rfl hb6 rfl ?_)
    refine SeqR.d1 rfl rfl rfl (yl_assign rfl rfl ?_)
    refine SeqR.done ?_
    refine tn ?_
    refine CW.ret ?_
    refine rr rfl (.cons rfl .nil) ?_
    have hM13 : (i_GoodKey p_s) = (false) := by simp only [i_GoodKey, hb6, cond_true, cond_false, loopE_done, loopE_ret]
    rw [hM13]
    have q14 := Ex.trans (Ex.refl w) hE5
    exact ⟨rfl, q14⟩
set_option maxRecDepth 100000 in
set_option maxHeartbeats 2000000 in
theorem c_i_GoodFill {w : World} (p_f : DFill) (o1 : ok_Fill p_f) : Cal Try.prog 18 #[.agg #[.string (bs (p_f.Last)), .bool (p_f.Over)]] w fun v w' => v = .bool ((i_GoodFill p_f)) ∧ Ex w w' := by
  have hol2 : p_f.Last.length ≤ 1073741824 := o1
  refine Cal.of (vs := [.agg #[.string (bs (p_f.Last)), .bool (p_f.Over)]]) Try.func18 rfl Try.ntmps18 rfl ?_
  refine CW.seq ?_
  refine CW.region ?_
  refine SeqR.d1 rfl rfl rfl (yl_box (cs := [.string (bs (p_f.Last)), .bool (p_f.Over)]) rfl rfl rfl ?_)
  intro b3 w4 hs5 hz6 hB7 hE8
  refine SeqR.d1 rfl rfl rfl (yl_assign rfl rfl ?_)
  refine SeqR.done ?_
  refine tn ?_
  refine CW.seq ?_
  refine CW.region ?_
  refine SeqR.d1 rfl rfl rfl (yl_fieldAddr Try.fd29_0 rfl rfl ?_)
  refine SeqR.d1 rfl rfl rfl (yl_load1 Try.ty9 rfl rfl ((hB7.cell 0).trans rfl) ?_)
  refine SeqR.d1 rfl rfl rfl (yl_seql (a := p_f.Last) (b := ([] : Str)) rfl rfl rfl ?_)
  refine SeqR.d1 rfl rfl rfl (yl_move rfl rfl ?_)
  refine bcase (p_f.Last == ([] : Str)) (fun hb9 => ?_) (fun hb9 => ?_)
  · skip
    refine SeqR.z rfl rfl rfl rfl rfl hb9 ?_
    refine SeqR.z rfl rfl rfl rfl rfl hb9 ?_
    refine SeqR.z rfl rfl rfl rfl rfl hb9 ?_
    refine SeqR.d1 rfl rfl rfl (yl_pick_t rfl rfl hb9 rfl ?_)
    refine SeqR.d1 rfl rfl rfl (yl_assign rfl rfl ?_)
    refine SeqR.done ?_
    refine tn ?_
    refine CW.ret ?_
    refine rr rfl (.cons rfl .nil) ?_
    have hM10 : (i_GoodFill p_f) = (true) := by simp only [i_GoodFill, hb9, cond_true, cond_false, loopE_done, loopE_ret]
    rw [hM10]
    have q11 := Ex.trans (Ex.refl w) hE8
    exact ⟨rfl, q11⟩
  · skip
    refine SeqR.y rfl rfl rfl rfl rfl hb9 (yl_fieldAddr Try.fd29_0 rfl rfl ?_)
    refine SeqR.y rfl rfl rfl rfl rfl hb9 (yl_load1 Try.ty9 rfl rfl ((hB7.cell 0).trans rfl) ?_)
    refine SeqR.y rfl rfl rfl rfl rfl hb9 (yl_call Try.en55 rfl (opvs_cons rfl opvs_nil) (Cal.mono (c_i_GoodKey p_f.Last o1) ?_))
    rintro v13 w12 ⟨rfl, hE14⟩
    have hE14z := Ex.size hE14
    refine SeqR.d1 rfl rfl rfl (yl_pick_f rfl rfl hb9 rfl ?_)
    refine SeqR.d1 rfl rfl rfl (yl_assign rfl rfl ?_)
    refine SeqR.done ?_
    refine tn ?_
    refine CW.ret ?_
    refine rr rfl (.cons rfl .nil) ?_
    have hM15 : (i_GoodFill p_f) = ((i_GoodKey p_f.Last)) := by simp only [i_GoodFill, hb9, cond_true, cond_false, loopE_done, loopE_ret]
    rw [hM15]
    have q16 := Ex.trans (Ex.refl w) hE8
    have q17 := Ex.trans q16 hE14
    exact ⟨rfl, q17⟩
set_option maxRecDepth 100000 in
set_option maxHeartbeats 2000000 in
theorem c_l_FnExactGoodFill {w : World} (p_aF : DFill) (pre0 : wf_Fill p_aF) : Cal Try.prog 4 #[.agg #[.string (bs (p_aF.Last)), .bool (p_aF.Over)]] w fun v w' => v = .bool ((l_FnExactGoodFill p_aF)) ∧ Ex w w' := by
  refine Cal.of (vs := [.agg #[.string (bs (p_aF.Last)), .bool (p_aF.Over)]]) Try.func4 rfl Try.ntmps4 rfl ?_
  refine CW.seq ?_
  refine CW.region ?_
  refine SeqR.d1 rfl rfl rfl (yl_box (cs := [.string (bs (p_aF.Last)), .bool (p_aF.Over)]) rfl rfl rfl ?_)
  intro b1 w2 hs3 hz4 hB5 hE6
  refine SeqR.d1 rfl rfl rfl (yl_assign rfl rfl ?_)
  refine SeqR.done ?_
  refine tn ?_
  refine CW.seq ?_
  refine CW.region ?_
  refine SeqR.d1 rfl rfl rfl (yl_assign rfl rfl ?_)
  refine SeqR.done ?_
  refine tn ?_
  refine CW.seq ?_
  refine CW.region ?_
  refine SeqR.d1 rfl rfl rfl (yl_loadN (cs := [.string (bs (p_aF.Last)), .bool (p_aF.Over)]) Try.ty26 rfl rfl (hB5.cells (n := 2) rfl) rfl ?_)
  refine SeqR.d1 rfl rfl rfl (yl_move rfl rfl ?_)
  refine SeqR.d1 rfl rfl rfl (yl_call Try.en15 rfl (opvs_cons rfl (opvs_cons rfl opvs_nil)) (Cal.mono (c_l_szFill p_aF 1048576) ?_))
  rintro v8 w7 ⟨rfl, hE9⟩
  have hE9z := Ex.size hE9
  refine SeqR.d1 rfl rfl rfl (yl_assign rfl rfl ?_)
  refine SeqR.done ?_
  refine tn ?_
  refine CW.seq ?_
  refine CW.seq ?_
  refine CW.region ?_
  refine SeqR.d1 rfl rfl rfl (yl_move rfl rfl ?_)
  refine SeqR.d1 rfl rfl rfl (yl_lss rfl rfl rfl ?_)
  refine SeqR.done ?_
  refine tn ?_
  refine bcase (decide ((l_szFill p_aF 1048576) < 0)) (fun hb10 => ?_) (fun hb10 => ?_)
  · have hb10p := dec_t hb10
    refine CW.cond_t rfl hb10 ?_
    refine CW.seq ?_
    refine CW.region ?_
    refine SeqR.d1 rfl rfl rfl (yl_assign rfl rfl ?_)
    refine SeqR.done ?_
    refine tn ?_
    refine CW.ret ?_
    refine tr ?_
    refine rr rfl (.cons rfl .nil) ?_
    have hM11 : (l_FnExactGoodFill p_aF) = (true) := by simp only [l_FnExactGoodFill, hb10, cond_true, cond_false, loopE_done, loopE_ret]
    rw [hM11]
    have q12 := Ex.trans (Ex.refl w) hE6
    have q13 := Ex.trans q12 hE9
    exact ⟨rfl, q13⟩
  · have hb10p := dec_f hb10
    refine CW.cond_f rfl hb10 ?_
    refine CW.skip ?_
    refine tn ?_
    refine CW.seq ?_
    refine CW.region ?_
    have q14 := Box.ex hB5 hE9
    refine SeqR.d1 rfl rfl rfl (yl_loadN (cs := [.string (bs (p_aF.Last)), .bool (p_aF.Over)]) Try.ty26 rfl rfl (q14.cells (n := 2) rfl) rfl ?_)
    refine SeqR.d1 rfl rfl rfl (yl_call Try.en17 rfl (opvs_cons rfl opvs_nil) (Cal.mono (c_l_toFill p_aF ((szok_Fill pre0 (by decide) (dec_f hb10)).1)) ?_))
    rintro v16 w15 ⟨rfl, hE17⟩
    have hE17z := Ex.size hE17
    refine SeqR.d1 rfl rfl rfl (yl_call Try.en16 rfl (opvs_cons rfl opvs_nil) (Cal.mono (c_s_GoodFill p_aF ((szok_Fill pre0 (by decide) (dec_f hb10)).1)) ?_))
    rintro v19 w18 ⟨rfl, hE20⟩
    have hE20z := Ex.size hE20
    refine SeqR.d1 rfl rfl rfl (yl_assign rfl rfl ?_)
    refine SeqR.done ?_
    refine tn ?_
    refine CW.seq ?_
    refine CW.region ?_
    have q21 := Box.ex q14 hE17
    have q22 := Box.ex q21 hE20
    refine SeqR.d1 rfl rfl rfl (yl_loadN (cs := [.string (bs (p_aF.Last)), .bool (p_aF.Over)]) Try.ty26 rfl rfl (q22.cells (n := 2) rfl) rfl ?_)
    refine SeqR.d1 rfl rfl rfl (yl_call Try.en17 rfl (opvs_cons rfl opvs_nil) (Cal.mono (c_l_toFill p_aF ((szok_Fill pre0 (by decide) (dec_f hb10)).1)) ?_))
    rintro v24 w23 ⟨rfl, hE25⟩
    have hE25z := Ex.size hE25
    refine SeqR.d1 rfl rfl rfl (yl_call Try.en18 rfl (opvs_cons rfl opvs_nil) (Cal.mono (c_i_GoodFill p_aF ((szok_Fill pre0 (by decide) (dec_f hb10)).1)) ?_))
    rintro v27 w26 ⟨rfl, hE28⟩
    have hE28z := Ex.size hE28
    refine SeqR.d1 rfl rfl rfl (yl_assign rfl rfl ?_)
    refine SeqR.done ?_
    refine tn ?_
    refine CW.seq ?_
    refine CW.seq ?_
    refine CW.region ?_
    refine SeqR.d1 rfl rfl rfl (yl_move rfl rfl ?_)
    refine SeqR.d1 rfl rfl rfl (yl_move rfl rfl ?_)
    refine SeqR.d1 rfl rfl rfl (yl_bneq Try.un4 rfl rfl rfl ?_)
    refine SeqR.done ?_
    refine tn ?_
    refine bcase ((i_GoodFill p_aF) == (s_GoodFill p_aF)) (fun hb29 => ?_) (fun hb29 => ?_)
    · skip
      refine CW.cond_f rfl (not_t hb29) ?_
      refine CW.skip ?_
      refine tn ?_
      refine CW.seq ?_
      refine CW.region ?_
      refine SeqR.d1 rfl rfl rfl (yl_assign rfl rfl ?_)
      refine SeqR.done ?_
      refine tn ?_
      refine CW.ret ?_
      refine rr rfl (.cons rfl .nil) ?_
      have hM30 : (l_FnExactGoodFill p_aF) = (true) := by simp only [l_FnExactGoodFill, hb10, hb29, cond_true, cond_false, loopE_done, loopE_ret]
      rw [hM30]
      have q31 := Ex.trans (Ex.refl w) hE6
      have q32 := Ex.trans q31 hE9
      have q33 := Ex.trans q32 hE17
      have q34 := Ex.trans q33 hE20
      have q35 := Ex.trans q34 hE25
      have q36 := Ex.trans q35 hE28
      exact ⟨rfl, q36⟩
    · skip
      refine CW.cond_t rfl (not_f hb29) ?_
      refine CW.seq ?_
      refine CW.region ?_
      refine SeqR.d1 rfl rfl rfl (yl_assign rfl rfl ?_)
      refine SeqR.done ?_
      refine tn ?_
      refine CW.ret ?_
      refine tr ?_
      refine rr rfl (.cons rfl .nil) ?_
      have hM37 : (l_FnExactGoodFill p_aF) = (false) := by simp only [l_FnExactGoodFill, hb10, hb29, cond_true, cond_false, loopE_done, loopE_ret]
      rw [hM37]
      have q38 := Ex.trans (Ex.refl w) hE6
      have q39 := Ex.trans q38 hE9
      have q40 := Ex.trans q39 hE17
      have q41 := Ex.trans q40 hE20
      have q42 := Ex.trans q41 hE25
      have q43 := Ex.trans q42 hE28
      exact ⟨rfl, q43⟩
end Go.Proofs.Ytnfjabkdlkejkaa
