/- Good Row: what each call returns, part 2. -/
import Derived.Test.YtnfjabkdlkejkaaGoodRowC1
set_option linter.unusedVariables false
set_option linter.unusedSimpArgs false
namespace Go.Proofs.Ytnfjabkdlkejkaa
open Go.RowKit Go.X
set_option maxRecDepth 100000 in
set_option maxHeartbeats 2000000 in
theorem c_s_l3Bytes {w : World} (p_s : Str) (p_more : Str) (o1 : okS p_s) (o2 : okS p_more) : Cal Try.prog 99 #[.string (bs (p_s)), .string (bs (p_more))] w fun v w' => v = .bool ((s_l3Bytes p_s p_more)) ∧ Ex w w' := by
  have hol3 : p_s.length ≤ 1073741824 := o1
  have hol4 : p_more.length ≤ 1073741824 := o2
  refine Cal.of (vs := [.string (bs (p_s)), .string (bs (p_more))]) Try.func99 rfl Try.ntmps99 rfl ?_
  refine CW.seq ?_
  refine CW.region ?_
  refine SeqR.d1 rfl rfl rfl (yl_assign rfl rfl ?_)
  refine SeqR.done ?_
  refine tn ?_
  refine CW.seq ?_
  refine CW.seq ?_
  refine CW.region ?_
  refine SeqR.d1 rfl rfl rfl (yl_assign rfl rfl ?_)
  refine SeqR.done ?_
  refine tn ?_
  refine CW.block ?_
  refine CW.loop (fun m6 L7 w8 => ∃ (k5 : Nat), m6 = p_s.length - k5 ∧ k5 ≤ p_s.length ∧ lkp L7 0 = some (.string (bs (p_s))) ∧ lkp L7 1 = some (.string (bs (p_more))) ∧ lkp L7 5 = some (.int .i64 ((k5 : Int))) ∧ Ex w w8 ∧ loopM (B_s_l3Bytes_0 p_s p_more) (p_s.length - k5) k5 () = loopM (B_s_l3Bytes_0 p_s p_more) (p_s.length - 0) 0 ()) (p_s.length - 0) ?_ ?_
  · exact ⟨0, rfl, Nat.zero_le _, rfl, rfl, rfl, (Ex.refl w), rfl⟩
  · rintro m9 L10 w11 ⟨k5, rfl, hk12, hl14, hl15, hl16, hf17, hI13⟩
    refine CW.sub (Sub.cons hl14 (Sub.cons hl15 (Sub.cons hl16 (Sub.nil _)))) ?_
    have hf17z := Ex.size hf17
    have hbg18 : p_s.length ≤ 1073741824 := o1
    rcases Nat.lt_or_ge k5 p_s.length with hlt19 | hlt19
    · skip
      refine CW.seq ?_
      refine CW.seq ?_
      refine CW.region ?_
      refine SeqR.d1 rfl rfl rfl (yl_move rfl rfl ?_)
      refine SeqR.d1 rfl rfl rfl (yl_move rfl rfl ?_)
      refine SeqR.d1 rfl rfl rfl (yl_slen Try.un9 (a := p_s) rfl rfl ?_)
      refine SeqR.d1 rfl rfl rfl (yl_lss rfl rfl rfl ?_)
      refine SeqR.done ?_
      refine tn ?_
      refine CW.cond_t rfl (lt_t hlt19) ?_
      refine CW.skip ?_
      refine tn ?_
      refine CW.seq ?_
      refine CW.block ?_
      refine CW.seq ?_
      refine CW.region ?_
      refine SeqR.d1 rfl rfl rfl (yl_move rfl rfl ?_)
      refine SeqR.d1 rfl rfl rfl (yl_move rfl rfl ?_)
      refine SeqR.d1 rfl rfl rfl (yl_sindexN Try.un9 (a := p_s) rfl rfl rfl (by first | omega | assumption | (simp only [IntKind.wrap_i64] at *; omega)) ?_)
      refine SeqR.d1 rfl rfl rfl (yl_geq rfl rfl rfl ?_)
      refine SeqR.d1 rfl rfl rfl (yl_move rfl rfl ?_)
      refine bcase (decide (97 ≤ ((p_s.getD k5 0).toNat : Int))) (fun hb20 => ?_) (fun hb20 => ?_)
      · have hb20p := dec_t hb20
        refine SeqR.y rfl rfl rfl rfl rfl hb20 (yl_move rfl rfl ?_)
        refine SeqR.y rfl rfl rfl rfl rfl hb20 (yl_move rfl rfl ?_)
        refine SeqR.y rfl rfl rfl rfl rfl hb20 (yl_sindexN Try.un9 (a := p_s) rfl rfl rfl (by first | omega | assumption | (simp only [IntKind.wrap_i64] at *; omega)) ?_)
        refine SeqR.y rfl rfl rfl rfl rfl hb20 (yl_leq rfl rfl rfl ?_)
        refine SeqR.d1 rfl rfl rfl (yl_pick_t rfl rfl hb20 rfl ?_)
        refine SeqR.d1 rfl rfl rfl (yl_move rfl rfl ?_)
        refine bcase (decide (((p_s.getD k5 0).toNat : Int) ≤ 122)) (fun hb21 => ?_) (fun hb21 => ?_)
        · have hb21p := dec_t hb21
          refine SeqR.z rfl rfl rfl rfl rfl hb21 ?_
          refine SeqR.z rfl rfl rfl rfl rfl hb21 ?_
          refine SeqR.z rfl rfl rfl rfl rfl hb21 ?_
          refine SeqR.z rfl rfl rfl rfl rfl hb21 ?_
          refine SeqR.z rfl rfl rfl rfl rfl hb21 ?_
          refine SeqR.q rfl rfl rfl rfl rfl ?_
          refine SeqR.q rfl rfl rfl rfl rfl ?_
          refine SeqR.q rfl rfl rfl rfl rfl ?_
          refine SeqR.q rfl rfl rfl rfl rfl ?_
          refine SeqR.z rfl rfl rfl rfl rfl hb21 ?_
          refine SeqR.d1 rfl rfl rfl (yl_pick_t rfl rfl hb21 rfl ?_)
          refine SeqR.d1 rfl rfl rfl (yl_assign rfl rfl ?_)
          refine SeqR.done ?_
          refine tn ?_
          refine CW.seq ?_
          refine CW.seq ?_
          refine CW.region ?_
          refine SeqR.d1 rfl rfl rfl (yl_assign rfl rfl ?_)
          refine SeqR.done ?_
          refine tn ?_
          refine CW.block ?_
          refine CW.loop (fun m24 L25 w26 => ∃ (k22 : Nat) (x23 : Bool), m24 = p_more.length - k22 ∧ k22 ≤ p_more.length ∧ lkp L25 0 = some (.string (bs (p_s))) ∧ lkp L25 1 = some (.string (bs (p_more))) ∧ lkp L25 5 = some (.int .i64 ((k5 : Int))) ∧ lkp L25 6 = some (.bool (x23)) ∧ lkp L25 7 = some (.int .i64 ((k22 : Int))) ∧ lkp L25 19 = some (.string (bs (p_s))) ∧ lkp L25 20 = some (.int .i64 ((k5 : Int))) ∧ lkp L25 21 = some (.int .u8 (((p_s.getD k5 0).toNat : Int))) ∧ lkp L25 22 = some (.bool (decide (((p_s.getD k5 0).toNat : Int) ≤ 122))) ∧ lkp L25 25 = some (undef) ∧ lkp L25 26 = some (undef) ∧ lkp L25 27 = some (undef) ∧ lkp L25 28 = some (undef) ∧ lkp L25 29 = some (undef) ∧ lkp L25 30 = some (undef) ∧ lkp L25 31 = some (undef) ∧ lkp L25 32 = some (undef) ∧ lkp L25 33 = some (undef) ∧ lkp L25 34 = some (undef) ∧ Ex w w26 ∧ loopM (B_s_l3Bytes_1 p_s p_more k5) (p_more.length - k22) k22 (x23) = loopM (B_s_l3Bytes_1 p_s p_more k5) (p_more.length - 0) 0 (true)) (p_more.length - 0) ?_ ?_
          · exact ⟨0, true, rfl, Nat.zero_le _, rfl, rfl, rfl, rfl, rfl, rfl, rfl, rfl, rfl, rfl, rfl, rfl, rfl, rfl, rfl, rfl, rfl, rfl, rfl, hf17, rfl⟩
          · rintro m27 L28 w29 ⟨k22, x23, rfl, hk30, hl32, hl33, hl34, hl35, hl36, hl37, hl38, hl39, hl40, hl41, hl42, hl43, hl44, hl45, hl46, hl47, hl48, hl49, hl50, hf51, hI31⟩
            refine CW.sub (Sub.cons hl32 (Sub.cons hl33 (Sub.cons hl34 (Sub.cons hl35 (Sub.cons hl36 (Sub.cons hl37 (Sub.cons hl38 (Sub.cons hl39 (Sub.cons hl40 (Sub.cons hl41 (Sub.cons hl42 (Sub.cons hl43 (Sub.cons hl44 (Sub.cons hl45 (Sub.cons hl46 (Sub.cons hl47 (Sub.cons hl48 (Sub.cons hl49 (Sub.cons hl50 (Sub.nil _)))))))))))))))))))) ?_
            have hf51z := Ex.size hf51
            have hbg52 : p_more.length ≤ 1073741824 := o2
            rcases Nat.lt_or_ge k22 p_more.length with hlt53 | hlt53
            · skip
              refine CW.seq ?_
              refine CW.seq ?_
              refine CW.region ?_
              refine SeqR.d1 rfl rfl rfl (yl_move rfl rfl ?_)
              refine SeqR.d1 rfl rfl rfl (yl_move rfl rfl ?_)
              refine SeqR.d1 rfl rfl rfl (yl_slen Try.un9 (a := p_more) rfl rfl ?_)
              refine SeqR.d1 rfl rfl rfl (yl_lss rfl rfl rfl ?_)
              refine SeqR.done ?_
              refine tn ?_
              refine CW.cond_t rfl (lt_t hlt53) ?_
              refine CW.skip ?_
              refine tn ?_
              refine CW.seq ?_
              refine CW.block ?_
              refine bcase (x23) (fun hb54 => ?_) (fun hb54 => ?_)
              · skip
                refine CW.drawsI 11 (vgetI [DetI (.bool (x23)), DetI (.bool (x23)), DetI (undef), DetI (undef), DetI (undef), DetI (undef), DetI (undef), DetI (undef), DetI (undef), DetI (.bool (true)), DetI (.bool (true))]) Try.follows rfl rfl rfl rfl rfl rfl (vgetI_stable ⟨StableI.det _, StableI.det _, StableI.det _, StableI.det _, StableI.det _, StableI.det _, StableI.det _, StableI.det _, StableI.det _, StableI.det _, StableI.det _, trivial⟩) ⟨?_, ?_, ?_, ?_, ?_, ?_, ?_, ?_, ?_, ?_, ?_, trivial⟩ ?_
                · intro L55 w56 hi57
                  have hE58 := hi57.ex
                  have hE58z := Ex.size hE58
                  have hx59 := hi57.old 6 _ rfl rfl
                  exact OpR.op' rfl (Yl.sameI (yl_move rfl hx59 ⟨fun _ _ => rfl, rfl⟩))
                · intro L60 w61 hi62
                  have hE63 := hi62.ex
                  have hE63z := Ex.size hE63
                  obtain ⟨_, _, _, hx64, -, -, -, rfl⟩ := hi62.dep 0 42 rfl rfl
                  exact OpR.op' rfl (Yl.sameI (yl_move rfl hx64 ⟨fun _ _ => rfl, rfl⟩))
                · intro L65 w66 hi67
                  have hE68 := hi67.ex
                  have hE68z := Ex.size hE68
                  obtain ⟨_, _, _, hx69, -, -, -, rfl⟩ := hi67.dep 1 43 rfl rfl
                  exact OpR.skip rfl rfl hx69 hb54 ⟨rfl, Ex.refl _⟩
                · intro L70 w71 hi72
                  have hE73 := hi72.ex
                  have hE73z := Ex.size hE73
                  obtain ⟨_, _, _, hx74, -, -, -, rfl⟩ := hi72.dep 1 43 rfl rfl
                  exact OpR.skip rfl rfl hx74 hb54 ⟨rfl, Ex.refl _⟩
                · intro L75 w76 hi77
                  have hE78 := hi77.ex
                  have hE78z := Ex.size hE78
                  obtain ⟨_, _, _, hx79, -, -, -, rfl⟩ := hi77.dep 1 43 rfl rfl
                  exact OpR.skip rfl rfl hx79 hb54 ⟨rfl, Ex.refl _⟩
                · intro L80 w81 hi82
                  have hE83 := hi82.ex
                  have hE83z := Ex.size hE83
                  obtain ⟨_, _, _, hx84, -, -, -, rfl⟩ := hi82.dep 1 43 rfl rfl
                  exact OpR.skip rfl rfl hx84 hb54 ⟨rfl, Ex.refl _⟩
                · intro L85 w86 hi87
                  have hE88 := hi87.ex
                  have hE88z := Ex.size hE88
                  obtain ⟨_, _, _, hx89, -, -, -, rfl⟩ := hi87.dep 1 43 rfl rfl
                  exact OpR.skip rfl rfl hx89 hb54 ⟨rfl, Ex.refl _⟩
                · intro L90 w91 hi92
                  have hE93 := hi92.ex
                  have hE93z := Ex.size hE93
                  obtain ⟨_, _, _, hx94, -, -, -, rfl⟩ := hi92.dep 1 43 rfl rfl
                  exact OpR.skip rfl rfl hx94 hb54 ⟨rfl, Ex.refl _⟩
                · intro L95 w96 hi97
                  have hE98 := hi97.ex
                  have hE98z := Ex.size hE98
                  obtain ⟨_, _, _, hx99, -, -, -, rfl⟩ := hi97.dep 1 43 rfl rfl
                  exact OpR.skip rfl rfl hx99 hb54 ⟨rfl, Ex.refl _⟩
                · intro L100 w101 hi102
                  have hE103 := hi102.ex
                  have hE103z := Ex.size hE103
                  obtain ⟨_, _, _, hx104, -, -, -, rfl⟩ := hi102.dep 8 50 rfl rfl
                  obtain ⟨_, _, _, hx105, -, -, -, rfl⟩ := hi102.dep 1 43 rfl rfl
                  exact OpR.op' rfl (Yl.sameI (yl_pick_t rfl hx105 hb54 rfl ⟨fun _ _ => rfl, rfl⟩))
                · intro L106 w107 hi108
                  have hE109 := hi108.ex
                  have hE109z := Ex.size hE109
                  obtain ⟨_, _, _, hx110, -, -, -, rfl⟩ := hi108.dep 9 51 rfl rfl
                  exact OpR.op' rfl (Yl.sameI (yl_assign rfl hx110 ⟨fun _ _ => rfl, rfl⟩))
                · intro fl114 fh115 L111 w112 hp113
                  have hE116 := hp113.ex
                  have hE116z := Ex.size hE116
                  have hx117 := hp113.old 0 _ rfl rfl
                  have hx118 := hp113.old 1 _ rfl rfl
                  have hx119 := hp113.old 5 _ rfl rfl
                  have hx120 := hp113.old 7 _ rfl rfl
                  have hx121 := hp113.old 19 _ rfl rfl
                  have hx122 := hp113.old 20 _ rfl rfl
                  have hx123 := hp113.old 21 _ rfl rfl
                  have hx124 := hp113.old 22 _ rfl rfl
                  have hx125 := hp113.old 25 _ rfl rfl
                  have hx126 := hp113.old 26 _ rfl rfl
                  have hx127 := hp113.old 27 _ rfl rfl
                  have hx128 := hp113.old 28 _ rfl rfl
                  have hx129 := hp113.old 29 _ rfl rfl
                  have hx130 := hp113.old 30 _ rfl rfl
                  have hx131 := hp113.old 31 _ rfl rfl
                  have hx132 := hp113.old 32 _ rfl rfl
                  have hx133 := hp113.old 33 _ rfl rfl
                  have hx134 := hp113.old 34 _ rfl rfl
                  obtain ⟨_, hx135, rfl⟩ := hp113.new 2 44 rfl rfl
                  obtain ⟨_, hx136, rfl⟩ := hp113.new 3 45 rfl rfl
                  obtain ⟨_, hx137, rfl⟩ := hp113.new 4 46 rfl rfl
                  obtain ⟨_, hx138, rfl⟩ := hp113.new 5 47 rfl rfl
                  obtain ⟨_, hx139, rfl⟩ := hp113.new 6 48 rfl rfl
                  obtain ⟨_, hx140, rfl⟩ := hp113.new 7 49 rfl rfl
                  obtain ⟨_, hx141, rfl⟩ := hp113.new 8 50 rfl rfl
                  obtain ⟨_, hx142, rfl⟩ := hp113.new 10 6 rfl rfl
                  refine SeqR.done ?_
                  refine bn ?_
                  refine tn ?_
                  refine CW.sub (Sub.cons (d := 0) hx117 (Sub.cons (d := 1) hx118 (Sub.cons (d := 5) hx119 (Sub.cons (d := 6) hx142 (Sub.cons (d := 7) hx120 (Sub.cons (d := 19) hx121 (Sub.cons (d := 20) hx122 (Sub.cons (d := 21) hx123 (Sub.cons (d := 22) hx124 (Sub.cons (d := 25) hx125 (Sub.cons (d := 26) hx126 (Sub.cons (d := 27) hx127 (Sub.cons (d := 28) hx128 (Sub.cons (d := 29) hx129 (Sub.cons (d := 30) hx130 (Sub.cons (d := 31) hx131 (Sub.cons (d := 32) hx132 (Sub.cons (d := 33) hx133 (Sub.cons (d := 34) hx134 (Sub.cons (d := 44) hx135 (Sub.cons (d := 45) hx136 (Sub.cons (d := 46) hx137 (Sub.cons (d := 47) hx138 (Sub.cons (d := 48) hx139 (Sub.cons (d := 49) hx140 (Sub.cons (d := 50) hx141 (Sub.nil _))))))))))))))))))))))))))) ?_
                  refine CW.region ?_
                  refine SeqR.d1 rfl rfl rfl (yl_move rfl rfl ?_)
                  refine SeqR.d1 rfl rfl rfl (yl_inc rfl rfl rfl (by omega) ?_)
                  refine SeqR.d1 rfl rfl rfl (yl_assign rfl rfl ?_)
                  refine SeqR.done ?_
                  refine tn ?_
                  have hB143 : B_s_l3Bytes_1 p_s p_more k5 k22 (x23) = .cont (true) := by simp only [B_s_l3Bytes_1, hb20, hb21, hb54, cond_true, cond_false, loopE_done, loopE_ret]
                  have q144 := Ex.trans hf51 hE116
                  exact ⟨p_more.length - (k22 + 1), by omega, k22 + 1, true, rfl, hlt53, rfl, rfl, rfl, rfl, rfl, rfl, rfl, rfl, rfl, rfl, rfl, rfl, rfl, rfl, rfl, rfl, rfl, rfl, rfl, q144, (loopM.cont hlt53 hB143).symm.trans hI31⟩
              · skip
                refine CW.drawsI 11 (vgetI [DetI (.bool (x23)), DetI (.bool (x23)), DetI (.string (bs (p_s))), DetI (.int .i64 ((k5 : Int))), DetI (.int .u8 (((p_s.getD k5 0).toNat : Int))), DetI (.string (bs (p_more))), DetI (.int .i64 ((k22 : Int))), DetI (.int .u8 (((p_more.getD k22 0).toNat : Int))), DetI (.bool (decide (((p_s.getD k5 0).toNat : Int) = ((p_more.getD k22 0).toNat : Int)))), DetI (.bool (decide (((p_s.getD k5 0).toNat : Int) = ((p_more.getD k22 0).toNat : Int)))), DetI (.bool (decide (((p_s.getD k5 0).toNat : Int) = ((p_more.getD k22 0).toNat : Int))))]) Try.follows rfl rfl rfl rfl rfl rfl (vgetI_stable ⟨StableI.det _, StableI.det _, StableI.det _, StableI.det _, StableI.det _, StableI.det _, StableI.det _, StableI.det _, StableI.det _, StableI.det _, StableI.det _, trivial⟩) ⟨?_, ?_, ?_, ?_, ?_, ?_, ?_, ?_, ?_, ?_, ?_, trivial⟩ ?_
                · intro L145 w146 hi147
                  have hE148 := hi147.ex
                  have hE148z := Ex.size hE148
                  have hx149 := hi147.old 6 _ rfl rfl
                  exact OpR.op' rfl (Yl.sameI (yl_move rfl hx149 ⟨fun _ _ => rfl, rfl⟩))
                · intro L150 w151 hi152
                  have hE153 := hi152.ex
                  have hE153z := Ex.size hE153
                  obtain ⟨_, _, _, hx154, -, -, -, rfl⟩ := hi152.dep 0 42 rfl rfl
                  exact OpR.op' rfl (Yl.sameI (yl_move rfl hx154 ⟨fun _ _ => rfl, rfl⟩))
                · intro L155 w156 hi157
                  have hE158 := hi157.ex
                  have hE158z := Ex.size hE158
                  obtain ⟨_, _, _, hx159, -, -, -, rfl⟩ := hi157.dep 1 43 rfl rfl
                  have hx160 := hi157.old 0 _ rfl rfl
                  exact OpR.want rfl rfl hx159 hb54 (Yl.sameI (yl_move rfl hx160 ⟨fun _ _ => rfl, rfl⟩))
                · intro L161 w162 hi163
                  have hE164 := hi163.ex
                  have hE164z := Ex.size hE164
                  obtain ⟨_, _, _, hx165, -, -, -, rfl⟩ := hi163.dep 1 43 rfl rfl
                  have hx166 := hi163.old 5 _ rfl rfl
                  exact OpR.want rfl rfl hx165 hb54 (Yl.sameI (yl_move rfl hx166 ⟨fun _ _ => rfl, rfl⟩))
                · intro L167 w168 hi169
                  have hE170 := hi169.ex
                  have hE170z := Ex.size hE170
                  obtain ⟨_, _, _, hx171, -, -, -, rfl⟩ := hi169.dep 1 43 rfl rfl
                  obtain ⟨_, _, _, hx172, -, -, -, rfl⟩ := hi169.dep 2 44 rfl rfl
                  obtain ⟨_, _, _, hx173, -, -, -, rfl⟩ := hi169.dep 3 45 rfl rfl
                  exact OpR.want rfl rfl hx171 hb54 (Yl.sameI (yl_sindexN Try.un9 (a := p_s) rfl hx172 hx173 (by first | omega | assumption | (simp only [IntKind.wrap_i64] at *; omega)) ⟨fun _ _ => rfl, rfl⟩))
                · intro L174 w175 hi176
                  have hE177 := hi176.ex
                  have hE177z := Ex.size hE177
                  obtain ⟨_, _, _, hx178, -, -, -, rfl⟩ := hi176.dep 1 43 rfl rfl
                  have hx179 := hi176.old 1 _ rfl rfl
                  exact OpR.want rfl rfl hx178 hb54 (Yl.sameI (yl_move rfl hx179 ⟨fun _ _ => rfl, rfl⟩))
                · intro L180 w181 hi182
                  have hE183 := hi182.ex
                  have hE183z := Ex.size hE183
                  obtain ⟨_, _, _, hx184, -, -, -, rfl⟩ := hi182.dep 1 43 rfl rfl
                  have hx185 := hi182.old 7 _ rfl rfl
                  exact OpR.want rfl rfl hx184 hb54 (Yl.sameI (yl_move rfl hx185 ⟨fun _ _ => rfl, rfl⟩))
                · intro L186 w187 hi188
                  have hE189 := hi188.ex
                  have hE189z := Ex.size hE189
                  obtain ⟨_, _, _, hx190, -, -, -, rfl⟩ := hi188.dep 1 43 rfl rfl
                  obtain ⟨_, _, _, hx191, -, -, -, rfl⟩ := hi188.dep 5 47 rfl rfl
                  obtain ⟨_, _, _, hx192, -, -, -, rfl⟩ := hi188.dep 6 48 rfl rfl
                  exact OpR.want rfl rfl hx190 hb54 (Yl.sameI (yl_sindexN Try.un9 (a := p_more) rfl hx191 hx192 (by first | omega | assumption | (simp only [IntKind.wrap_i64] at *; omega)) ⟨fun _ _ => rfl, rfl⟩))
                · intro L193 w194 hi195
                  have hE196 := hi195.ex
                  have hE196z := Ex.size hE196
                  obtain ⟨_, _, _, hx197, -, -, -, rfl⟩ := hi195.dep 1 43 rfl rfl
                  obtain ⟨_, _, _, hx198, -, -, -, rfl⟩ := hi195.dep 4 46 rfl rfl
                  obtain ⟨_, _, _, hx199, -, -, -, rfl⟩ := hi195.dep 7 49 rfl rfl
                  exact OpR.want rfl rfl hx197 hb54 (Yl.sameI (yl_eql rfl hx198 hx199 ⟨fun _ _ => rfl, rfl⟩))
                · intro L200 w201 hi202
                  have hE203 := hi202.ex
                  have hE203z := Ex.size hE203
                  obtain ⟨_, _, _, hx204, -, -, -, rfl⟩ := hi202.dep 8 50 rfl rfl
                  obtain ⟨_, _, _, hx205, -, -, -, rfl⟩ := hi202.dep 1 43 rfl rfl
                  exact OpR.op' rfl (Yl.sameI (yl_pick_f rfl hx205 hb54 hx204 ⟨fun _ _ => rfl, rfl⟩))
                · intro L206 w207 hi208
                  have hE209 := hi208.ex
                  have hE209z := Ex.size hE209
                  obtain ⟨_, _, _, hx210, -, -, -, rfl⟩ := hi208.dep 9 51 rfl rfl
                  exact OpR.op' rfl (Yl.sameI (yl_assign rfl hx210 ⟨fun _ _ => rfl, rfl⟩))
                · intro fl214 fh215 L211 w212 hp213
                  have hE216 := hp213.ex
                  have hE216z := Ex.size hE216
                  have hx217 := hp213.old 0 _ rfl rfl
                  have hx218 := hp213.old 1 _ rfl rfl
                  have hx219 := hp213.old 5 _ rfl rfl
                  have hx220 := hp213.old 7 _ rfl rfl
                  have hx221 := hp213.old 19 _ rfl rfl
                  have hx222 := hp213.old 20 _ rfl rfl
                  have hx223 := hp213.old 21 _ rfl rfl
                  have hx224 := hp213.old 22 _ rfl rfl
                  have hx225 := hp213.old 25 _ rfl rfl
                  have hx226 := hp213.old 26 _ rfl rfl
                  have hx227 := hp213.old 27 _ rfl rfl
                  have hx228 := hp213.old 28 _ rfl rfl
                  have hx229 := hp213.old 29 _ rfl rfl
                  have hx230 := hp213.old 30 _ rfl rfl
                  have hx231 := hp213.old 31 _ rfl rfl
                  have hx232 := hp213.old 32 _ rfl rfl
                  have hx233 := hp213.old 33 _ rfl rfl
                  have hx234 := hp213.old 34 _ rfl rfl
                  obtain ⟨_, hx235, rfl⟩ := hp213.new 2 44 rfl rfl
                  obtain ⟨_, hx236, rfl⟩ := hp213.new 3 45 rfl rfl
                  obtain ⟨_, hx237, rfl⟩ := hp213.new 4 46 rfl rfl
                  obtain ⟨_, hx238, rfl⟩ := hp213.new 5 47 rfl rfl
                  obtain ⟨_, hx239, rfl⟩ := hp213.new 6 48 rfl rfl
                  obtain ⟨_, hx240, rfl⟩ := hp213.new 7 49 rfl rfl
                  obtain ⟨_, hx241, rfl⟩ := hp213.new 8 50 rfl rfl
                  obtain ⟨_, hx242, rfl⟩ := hp213.new 10 6 rfl rfl
                  refine SeqR.done ?_
                  refine bn ?_
                  refine tn ?_
                  refine CW.sub (Sub.cons (d := 0) hx217 (Sub.cons (d := 1) hx218 (Sub.cons (d := 5) hx219 (Sub.cons (d := 6) hx242 (Sub.cons (d := 7) hx220 (Sub.cons (d := 19) hx221 (Sub.cons (d := 20) hx222 (Sub.cons (d := 21) hx223 (Sub.cons (d := 22) hx224 (Sub.cons (d := 25) hx225 (Sub.cons (d := 26) hx226 (Sub.cons (d := 27) hx227 (Sub.cons (d := 28) hx228 (Sub.cons (d := 29) hx229 (Sub.cons (d := 30) hx230 (Sub.cons (d := 31) hx231 (Sub.cons (d := 32) hx232 (Sub.cons (d := 33) hx233 (Sub.cons (d := 34) hx234 (Sub.cons (d := 44) hx235 (Sub.cons (d := 45) hx236 (Sub.cons (d := 46) hx237 (Sub.cons (d := 47) hx238 (Sub.cons (d := 48) hx239 (Sub.cons (d := 49) hx240 (Sub.cons (d := 50) hx241 (Sub.nil _))))))))))))))))))))))))))) ?_
                  refine CW.region ?_
                  refine SeqR.d1 rfl rfl rfl (yl_move rfl rfl ?_)
                  refine SeqR.d1 rfl rfl rfl (yl_inc rfl rfl rfl (by omega) ?_)
                  refine SeqR.d1 rfl rfl rfl (yl_assign rfl rfl ?_)
                  refine SeqR.done ?_
                  refine tn ?_
                  have hB243 : B_s_l3Bytes_1 p_s p_more k5 k22 (x23) = .cont (decide (((p_s.getD k5 0).toNat : Int) = ((p_more.getD k22 0).toNat : Int))) := by simp only [B_s_l3Bytes_1, hb20, hb21, hb54, cond_true, cond_false, loopE_done, loopE_ret]
                  have q244 := Ex.trans hf51 hE216
                  exact ⟨p_more.length - (k22 + 1), by omega, k22 + 1, decide (((p_s.getD k5 0).toNat : Int) = ((p_more.getD k22 0).toNat : Int)), rfl, hlt53, rfl, rfl, rfl, rfl, rfl, rfl, rfl, rfl, rfl, rfl, rfl, rfl, rfl, rfl, rfl, rfl, rfl, rfl, rfl, q244, (loopM.cont hlt53 hB243).symm.trans hI31⟩
            · skip
              refine CW.seq ?_
              refine CW.seq ?_
              refine CW.region ?_
              refine SeqR.d1 rfl rfl rfl (yl_move rfl rfl ?_)
              refine SeqR.d1 rfl rfl rfl (yl_move rfl rfl ?_)
              refine SeqR.d1 rfl rfl rfl (yl_slen Try.un9 (a := p_more) rfl rfl ?_)
              refine SeqR.d1 rfl rfl rfl (yl_lss rfl rfl rfl ?_)
              refine SeqR.done ?_
              refine tn ?_
              refine CW.cond_f rfl (lt_f hlt53) ?_
              refine CW.exit ?_
              refine tx ?_
              refine tx ?_
              have hL245 : loopM (B_s_l3Bytes_1 p_s p_more k5) (p_more.length - 0) 0 (true) = .done (x23) := hI31.symm.trans (loopM.stop hlt53)
              refine bx ?_
              refine tn ?_
              refine CW.seq ?_
              refine CW.region ?_
              refine SeqR.d1 rfl rfl rfl (yl_move rfl rfl ?_)
              refine SeqR.d1 rfl rfl rfl (yl_not rfl rfl ?_)
              refine SeqR.done ?_
              refine tn ?_
              refine bcase (x23) (fun hb246 => ?_) (fun hb246 => ?_)
              · skip
                refine CW.cond_f rfl (not_t hb246) ?_
                refine CW.skip ?_
                refine bn ?_
                refine tn ?_
                refine CW.region ?_
                refine SeqR.d1 rfl rfl rfl (yl_move rfl rfl ?_)
                refine SeqR.d1 rfl rfl rfl (yl_inc rfl rfl rfl (by omega) ?_)
                refine SeqR.d1 rfl rfl rfl (yl_assign rfl rfl ?_)
                refine SeqR.done ?_
                refine tn ?_
                have hB247 : B_s_l3Bytes_0 p_s p_more k5 () = .cont () := by simp only [B_s_l3Bytes_0, hb20, hb21, hb246, hL245, cond_true, cond_false, loopE_done, loopE_ret]
                exact ⟨p_s.length - (k5 + 1), by omega, k5 + 1, rfl, hlt19, rfl, rfl, rfl, hf51, (loopM.cont hlt19 hB247).symm.trans hI13⟩
              · skip
                refine CW.cond_t rfl (not_f hb246) ?_
                refine CW.seq ?_
                refine CW.region ?_
                refine SeqR.d1 rfl rfl rfl (yl_assign rfl rfl ?_)
                refine SeqR.done ?_
                refine tn ?_
                refine CW.ret ?_
                refine br ?_
                refine tr ?_
                refine tr ?_
                have hB249 : B_s_l3Bytes_0 p_s p_more k5 () = .ret false := by simp only [B_s_l3Bytes_0, hb20, hb21, hb246, hL245, cond_true, cond_false, loopE_done, loopE_ret]
                have hL248 : loopM (B_s_l3Bytes_0 p_s p_more) (p_s.length - 0) 0 () = .ret false := hI13.symm.trans (loopM.ret hlt19 hB249)
                refine br ?_
                refine tr ?_
                refine rr rfl (.cons rfl .nil) ?_
                have hM250 : (s_l3Bytes p_s p_more) = (false) := by simp only [s_l3Bytes, hb20, hb21, hb246, hL245, hL248, cond_true, cond_false, loopE_done, loopE_ret]
                rw [hM250]
                exact ⟨rfl, hf51⟩
        · have hb21p := dec_f hb21
          refine SeqR.y rfl rfl rfl rfl rfl hb21 (yl_move rfl rfl ?_)
          refine SeqR.y rfl rfl rfl rfl rfl hb21 (yl_move rfl rfl ?_)
          refine SeqR.y rfl rfl rfl rfl rfl hb21 (yl_sindexN Try.un9 (a := p_s) rfl rfl rfl (by first | omega | assumption | (simp only [IntKind.wrap_i64] at *; omega)) ?_)
          refine SeqR.y rfl rfl rfl rfl rfl hb21 (yl_geq rfl rfl rfl ?_)
          refine SeqR.y rfl rfl rfl rfl rfl hb21 (yl_move rfl rfl ?_)
          refine bcase (decide (48 ≤ ((p_s.getD k5 0).toNat : Int))) (fun hb251 => ?_) (fun hb251 => ?_)
          · have hb251p := dec_t hb251
            refine SeqR.y rfl rfl rfl rfl rfl hb251 (yl_move rfl rfl ?_)
            refine SeqR.y rfl rfl rfl rfl rfl hb251 (yl_move rfl rfl ?_)
            refine SeqR.y rfl rfl rfl rfl rfl hb251 (yl_sindexN Try.un9 (a := p_s) rfl rfl rfl (by first | omega | assumption | (simp only [IntKind.wrap_i64] at *; omega)) ?_)
            refine SeqR.y rfl rfl rfl rfl rfl hb251 (yl_leq rfl rfl rfl ?_)
            refine SeqR.y rfl rfl rfl rfl rfl hb21 (yl_pick_t rfl rfl hb251 rfl ?_)
            refine SeqR.d1 rfl rfl rfl (yl_pick_f rfl rfl hb21 rfl ?_)
            refine SeqR.d1 rfl rfl rfl (yl_assign rfl rfl ?_)
            refine SeqR.done ?_
            refine tn ?_
            refine CW.seq ?_
            refine CW.seq ?_
            refine CW.region ?_
            refine SeqR.d1 rfl rfl rfl (yl_assign rfl rfl ?_)
            refine SeqR.done ?_
            refine tn ?_
            refine CW.block ?_
            refine CW.loop (fun m254 L255 w256 => ∃ (k252 : Nat) (x253 : Bool), m254 = p_more.length - k252 ∧ k252 ≤ p_more.length ∧ lkp L255 0 = some (.string (bs (p_s))) ∧ lkp L255 1 = some (.string (bs (p_more))) ∧ lkp L255 5 = some (.int .i64 ((k5 : Int))) ∧ lkp L255 6 = some (.bool (x253)) ∧ lkp L255 7 = some (.int .i64 ((k252 : Int))) ∧ lkp L255 19 = some (.string (bs (p_s))) ∧ lkp L255 20 = some (.int .i64 ((k5 : Int))) ∧ lkp L255 21 = some (.int .u8 (((p_s.getD k5 0).toNat : Int))) ∧ lkp L255 22 = some (.bool (decide (((p_s.getD k5 0).toNat : Int) ≤ 122))) ∧ lkp L255 25 = some (.string (bs (p_s))) ∧ lkp L255 26 = some (.int .i64 ((k5 : Int))) ∧ lkp L255 27 = some (.int .u8 (((p_s.getD k5 0).toNat : Int))) ∧ lkp L255 28 = some (.bool (decide (48 ≤ ((p_s.getD k5 0).toNat : Int)))) ∧ lkp L255 29 = some (.bool (decide (48 ≤ ((p_s.getD k5 0).toNat : Int)))) ∧ lkp L255 30 = some (.string (bs (p_s))) ∧ lkp L255 31 = some (.int .i64 ((k5 : Int))) ∧ lkp L255 32 = some (.int .u8 (((p_s.getD k5 0).toNat : Int))) ∧ lkp L255 33 = some (.bool (decide (((p_s.getD k5 0).toNat : Int) ≤ 57))) ∧ lkp L255 34 = some (.bool (decide (((p_s.getD k5 0).toNat : Int) ≤ 57))) ∧ Ex w w256 ∧ loopM (B_s_l3Bytes_1 p_s p_more k5) (p_more.length - k252) k252 (x253) = loopM (B_s_l3Bytes_1 p_s p_more k5) (p_more.length - 0) 0 (decide (((p_s.getD k5 0).toNat : Int) ≤ 57))) (p_more.length - 0) ?_ ?_
            · exact ⟨0, decide (((p_s.getD k5 0).toNat : Int) ≤ 57), rfl, Nat.zero_le _, rfl, rfl, rfl, rfl, rfl, rfl, rfl, rfl, rfl, rfl, rfl, rfl, rfl, rfl, rfl, rfl, rfl, rfl, rfl, hf17, rfl⟩
            · rintro m257 L258 w259 ⟨k252, x253, rfl, hk260, hl262, hl263, hl264, hl265, hl266, hl267, hl268, hl269, hl270, hl271, hl272, hl273, hl274, hl275, hl276, hl277, hl278, hl279, hl280, hf281, hI261⟩
              refine CW.sub (Sub.cons hl262 (Sub.cons hl263 (Sub.cons hl264 (Sub.cons hl265 (Sub.cons hl266 (Sub.cons hl267 (Sub.cons hl268 (Sub.cons hl269 (Sub.cons hl270 (Sub.cons hl271 (Sub.cons hl272 (Sub.cons hl273 (Sub.cons hl274 (Sub.cons hl275 (Sub.cons hl276 (Sub.cons hl277 (Sub.cons hl278 (Sub.cons hl279 (Sub.cons hl280 (Sub.nil _)))))))))))))))))))) ?_
              have hf281z := Ex.size hf281
              have hbg282 : p_more.length ≤ 1073741824 := o2
              rcases Nat.lt_or_ge k252 p_more.length with hlt283 | hlt283
              · skip
                refine CW.seq ?_
                refine CW.seq ?_
                refine CW.region ?_
                refine SeqR.d1 rfl rfl rfl (yl_move rfl rfl ?_)
                refine SeqR.d1 rfl rfl rfl (yl_move rfl rfl ?_)
                refine SeqR.d1 rfl rfl rfl (yl_slen Try.un9 (a := p_more) rfl rfl ?_)
                refine SeqR.d1 rfl rfl rfl (yl_lss rfl rfl rfl ?_)
                refine SeqR.done ?_
                refine tn ?_
                refine CW.cond_t rfl (lt_t hlt283) ?_
                refine CW.skip ?_
                refine tn ?_
                refine CW.seq ?_
                refine CW.block ?_
                refine bcase (x253) (fun hb284 => ?_) (fun hb284 => ?_)
                · skip
                  refine CW.drawsI 11 (vgetI [DetI (.bool (x253)), DetI (.bool (x253)), DetI (undef), DetI (undef), DetI (undef), DetI (undef), DetI (undef), DetI (undef), DetI (undef), DetI (.bool (true)), DetI (.bool (true))]) Try.follows rfl rfl rfl rfl rfl rfl (vgetI_stable ⟨StableI.det _, StableI.det _, StableI.det _, StableI.det _, StableI.det _, StableI.det _, StableI.det _, StableI.det _, StableI.det _, StableI.det _, StableI.det _, trivial⟩) ⟨?_, ?_, ?_, ?_, ?_, ?_, ?_, ?_, ?_, ?_, ?_, trivial⟩ ?_
                  · intro L285 w286 hi287
                    have hE288 := hi287.ex
                    have hE288z := Ex.size hE288
                    have hx289 := hi287.old 6 _ rfl rfl
                    exact OpR.op' rfl (Yl.sameI (yl_move rfl hx289 ⟨fun _ _ => rfl, rfl⟩))
                  · intro L290 w291 hi292
                    have hE293 := hi292.ex
                    have hE293z := Ex.size hE293
                    obtain ⟨_, _, _, hx294, -, -, -, rfl⟩ := hi292.dep 0 42 rfl rfl
                    exact OpR.op' rfl (Yl.sameI (yl_move rfl hx294 ⟨fun _ _ => rfl, rfl⟩))
                  · intro L295 w296 hi297
                    have hE298 := hi297.ex
                    have hE298z := Ex.size hE298
                    obtain ⟨_, _, _, hx299, -, -, -, rfl⟩ := hi297.dep 1 43 rfl rfl
                    exact OpR.skip rfl rfl hx299 hb284 ⟨rfl, Ex.refl _⟩
                  · intro L300 w301 hi302
                    have hE303 := hi302.ex
                    have hE303z := Ex.size hE303
                    obtain ⟨_, _, _, hx304, -, -, -, rfl⟩ := hi302.dep 1 43 rfl rfl
                    exact OpR.skip rfl rfl hx304 hb284 ⟨rfl, Ex.refl _⟩
                  · intro L305 w306 hi307
                    have hE308 := hi307.ex
                    have hE308z := Ex.size hE308
                    obtain ⟨_, _, _, hx309, -, -, -, rfl⟩ := hi307.dep 1 43 rfl rfl
                    exact OpR.skip rfl rfl hx309 hb284 ⟨rfl, Ex.refl _⟩
                  · intro L310 w311 hi312
                    have hE313 := hi312.ex
                    have hE313z := Ex.size hE313
                    obtain ⟨_, _, _, hx314, -, -, -, rfl⟩ := hi312.dep 1 43 rfl rfl
                    exact OpR.skip rfl rfl hx314 hb284 ⟨rfl, Ex.refl _⟩
                  · intro L315 w316 hi317
                    have hE318 := hi317.ex
                    have hE318z := Ex.size hE318
                    obtain ⟨_, _, _, hx319, -, -, -, rfl⟩ := hi317.dep 1 43 rfl rfl
                    exact OpR.skip rfl rfl hx319 hb284 ⟨rfl, Ex.refl _⟩
                  · intro L320 w321 hi322
                    have hE323 := hi322.ex
                    have hE323z := Ex.size hE323
                    obtain ⟨_, _, _, hx324, -, -, -, rfl⟩ := hi322.dep 1 43 rfl rfl
                    exact OpR.skip rfl rfl hx324 hb284 ⟨rfl, Ex.refl _⟩
                  · intro L325 w326 hi327
                    have hE328 := hi327.ex
                    have hE328z := Ex.size hE328
                    obtain ⟨_, _, _, hx329, -, -, -, rfl⟩ := hi327.dep 1 43 rfl rfl
                    exact OpR.skip rfl rfl hx329 hb284 ⟨rfl, Ex.refl _⟩
                  · intro L330 w331 hi332
                    have hE333 := hi332.ex
                    have hE333z := Ex.size hE333
                    obtain ⟨_, _, _, hx334, -, -, -, rfl⟩ := hi332.dep 8 50 rfl rfl
                    obtain ⟨_, _, _, hx335, -, -, -, rfl⟩ := hi332.dep 1 43 rfl rfl
                    exact OpR.op' rfl (Yl.sameI (yl_pick_t rfl hx335 hb284 rfl ⟨fun _ _ => rfl, rfl⟩))
                  · intro L336 w337 hi338
                    have hE339 := hi338.ex
                    have hE339z := Ex.size hE339
                    obtain ⟨_, _, _, hx340, -, -, -, rfl⟩ := hi338.dep 9 51 rfl rfl
                    exact OpR.op' rfl (Yl.sameI (yl_assign rfl hx340 ⟨fun _ _ => rfl, rfl⟩))
                  · intro fl344 fh345 L341 w342 hp343
                    have hE346 := hp343.ex
                    have hE346z := Ex.size hE346
                    have hx347 := hp343.old 0 _ rfl rfl
                    have hx348 := hp343.old 1 _ rfl rfl
                    have hx349 := hp343.old 5 _ rfl rfl
                    have hx350 := hp343.old 7 _ rfl rfl
                    have hx351 := hp343.old 19 _ rfl rfl
                    have hx352 := hp343.old 20 _ rfl rfl
                    have hx353 := hp343.old 21 _ rfl rfl
                    have hx354 := hp343.old 22 _ rfl rfl
                    have hx355 := hp343.old 25 _ rfl rfl
                    have hx356 := hp343.old 26 _ rfl rfl
                    have hx357 := hp343.old 27 _ rfl rfl
                    have hx358 := hp343.old 28 _ rfl rfl
                    have hx359 := hp343.old 29 _ rfl rfl
                    have hx360 := hp343.old 30 _ rfl rfl
                    have hx361 := hp343.old 31 _ rfl rfl
                    have hx362 := hp343.old 32 _ rfl rfl
                    have hx363 := hp343.old 33 _ rfl rfl
                    have hx364 := hp343.old 34 _ rfl rfl
                    obtain ⟨_, hx365, rfl⟩ := hp343.new 2 44 rfl rfl
                    obtain ⟨_, hx366, rfl⟩ := hp343.new 3 45 rfl rfl
                    obtain ⟨_, hx367, rfl⟩ := hp343.new 4 46 rfl rfl
                    obtain ⟨_, hx368, rfl⟩ := hp343.new 5 47 rfl rfl
                    obtain ⟨_, hx369, rfl⟩ := hp343.new 6 48 rfl rfl
                    obtain ⟨_, hx370, rfl⟩ := hp343.new 7 49 rfl rfl
                    obtain ⟨_, hx371, rfl⟩ := hp343.new 8 50 rfl rfl
                    obtain ⟨_, hx372, rfl⟩ := hp343.new 10 6 rfl rfl
                    refine SeqR.done ?_
                    refine bn ?_
                    refine tn ?_
                    refine CW.sub (Sub.cons (d := 0) hx347 (Sub.cons (d := 1) hx348 (Sub.cons (d := 5) hx349 (Sub.cons (d := 6) hx372 (Sub.cons (d := 7) hx350 (Sub.cons (d := 19) hx351 (Sub.cons (d := 20) hx352 (Sub.cons (d := 21) hx353 (Sub.cons (d := 22) hx354 (Sub.cons (d := 25) hx355 (Sub.cons (d := 26) hx356 (Sub.cons (d := 27) hx357 (Sub.cons (d := 28) hx358 (Sub.cons (d := 29) hx359 (Sub.cons (d := 30) hx360 (Sub.cons (d := 31) hx361 (Sub.cons (d := 32) hx362 (Sub.cons (d := 33) hx363 (Sub.cons (d := 34) hx364 (Sub.cons (d := 44) hx365 (Sub.cons (d := 45) hx366 (Sub.cons (d := 46) hx367 (Sub.cons (d := 47) hx368 (Sub.cons (d := 48) hx369 (Sub.cons (d := 49) hx370 (Sub.cons (d := 50) hx371 (Sub.nil _))))))))))))))))))))))))))) ?_
                    refine CW.region ?_
                    refine SeqR.d1 rfl rfl rfl (yl_move rfl rfl ?_)
                    refine SeqR.d1 rfl rfl rfl (yl_inc rfl rfl rfl (by omega) ?_)
                    refine SeqR.d1 rfl rfl rfl (yl_assign rfl rfl ?_)
                    refine SeqR.done ?_
                    refine tn ?_
                    have hB373 : B_s_l3Bytes_1 p_s p_more k5 k252 (x253) = .cont (true) := by simp only [B_s_l3Bytes_1, hb20, hb21, hb251, hb284, cond_true, cond_false, loopE_done, loopE_ret]
                    have q374 := Ex.trans hf281 hE346
                    exact ⟨p_more.length - (k252 + 1), by omega, k252 + 1, true, rfl, hlt283, rfl, rfl, rfl, rfl, rfl, rfl, rfl, rfl, rfl, rfl, rfl, rfl, rfl, rfl, rfl, rfl, rfl, rfl, rfl, q374, (loopM.cont hlt283 hB373).symm.trans hI261⟩
                · skip
                  refine CW.drawsI 11 (vgetI [DetI (.bool (x253)), DetI (.bool (x253)), DetI (.string (bs (p_s))), DetI (.int .i64 ((k5 : Int))), DetI (.int .u8 (((p_s.getD k5 0).toNat : Int))), DetI (.string (bs (p_more))), DetI (.int .i64 ((k252 : Int))), DetI (.int .u8 (((p_more.getD k252 0).toNat : Int))), DetI (.bool (decide (((p_s.getD k5 0).toNat : Int) = ((p_more.getD k252 0).toNat : Int)))), DetI (.bool (decide (((p_s.getD k5 0).toNat : Int) = ((p_more.getD k252 0).toNat : Int)))), DetI (.bool (decide (((p_s.getD k5 0).toNat : Int) = ((p_more.getD k252 0).toNat : Int))))]) Try.follows rfl rfl rfl rfl rfl rfl (vgetI_stable ⟨StableI.det _, StableI.det _, StableI.det _, StableI.det _, StableI.det _, StableI.det _, StableI.det _, StableI.det _, StableI.det _, StableI.det _, StableI.det _, trivial⟩) ⟨?_, ?_, ?_, ?_, ?_, ?_, ?_, ?_, ?_, ?_, ?_, trivial⟩ ?_
                  · intro L375 w376 hi377
                    have hE378 := hi377.ex
                    have hE378z := Ex.size hE378
                    have hx379 := hi377.old 6 _ rfl rfl
                    exact OpR.op' rfl (Yl.sameI (yl_move rfl hx379 ⟨fun _ _ => rfl, rfl⟩))
                  · intro L380 w381 hi382
                    have hE383 := hi382.ex
                    have hE383z := Ex.size hE383
                    obtain ⟨_, _, _, hx384, -, -, -, rfl⟩ := hi382.dep 0 42 rfl rfl
                    exact OpR.op' rfl (Yl.sameI (yl_move rfl hx384 ⟨fun _ _ => rfl, rfl⟩))
                  · intro L385 w386 hi387
                    have hE388 := hi387.ex
                    have hE388z := Ex.size hE388
                    obtain ⟨_, _, _, hx389, -, -, -, rfl⟩ := hi387.dep 1 43 rfl rfl
                    have hx390 := hi387.old 0 _ rfl rfl
                    exact OpR.want rfl rfl hx389 hb284 (Yl.sameI (yl_move rfl hx390 ⟨fun _ _ => rfl, rfl⟩))
                  · intro L391 w392 hi393
                    have hE394 := hi393.ex
                    have hE394z := Ex.size hE394
                    obtain ⟨_, _, _, hx395, -, -, -, rfl⟩ := hi393.dep 1 43 rfl rfl
                    have hx396 := hi393.old 5 _ rfl rfl
                    exact OpR.want rfl rfl hx395 hb284 (Yl.sameI (yl_move rfl hx396 ⟨fun _ _ => rfl, rfl⟩))
                  · intro L397 w398 hi399
                    have hE400 := hi399.ex
                    have hE400z := Ex.size hE400
                    obtain ⟨_, _, _, hx401, -, -, -, rfl⟩ := hi399.dep 1 43 rfl rfl
                    obtain ⟨_, _, _, hx402, -, -, -, rfl⟩ := hi399.dep 2 44 rfl rfl
                    obtain ⟨_, _, _, hx403, -, -, -, rfl⟩ := hi399.dep 3 45 rfl rfl
                    exact OpR.want rfl rfl hx401 hb284 (Yl.sameI (yl_sindexN Try.un9 (a := p_s) rfl hx402 hx403 (by first | omega | assumption | (simp only [IntKind.wrap_i64] at *; omega)) ⟨fun _ _ => rfl, rfl⟩))
                  · intro L404 w405 hi406
                    have hE407 := hi406.ex
                    have hE407z := Ex.size hE407
                    obtain ⟨_, _, _, hx408, -, -, -, rfl⟩ := hi406.dep 1 43 rfl rfl
                    have hx409 := hi406.old 1 _ rfl rfl
                    exact OpR.want rfl rfl hx408 hb284 (Yl.sameI (yl_move rfl hx409 ⟨fun _ _ => rfl, rfl⟩))
                  · intro L410 w411 hi412
                    have hE413 := hi412.ex
                    have hE413z := Ex.size hE413
                    obtain ⟨_, _, _, hx414, -, -, -, rfl⟩ := hi412.dep 1 43 rfl rfl
                    have hx415 := hi412.old 7 _ rfl rfl
                    exact OpR.want rfl rfl hx414 hb284 (Yl.sameI (yl_move rfl hx415 ⟨fun _ _ => rfl, rfl⟩))
                  · intro L416 w417 hi418
                    have hE419 := hi418.ex
                    have hE419z := Ex.size hE419
                    obtain ⟨_, _, _, hx420, -, -, -, rfl⟩ := hi418.dep 1 43 rfl rfl
                    obtain ⟨_, _, _, hx421, -, -, -, rfl⟩ := hi418.dep 5 47 rfl rfl
                    obtain ⟨_, _, _, hx422, -, -, -, rfl⟩ := hi418.dep 6 48 rfl rfl
                    exact OpR.want rfl rfl hx420 hb284 (Yl.sameI (yl_sindexN Try.un9 (a := p_more) rfl hx421 hx422 (by first | omega | assumption | (simp only [IntKind.wrap_i64] at *; omega)) ⟨fun _ _ => rfl, rfl⟩))
                  · intro L423 w424 hi425
                    have hE426 := hi425.ex
                    have hE426z := Ex.size hE426
                    obtain ⟨_, _, _, hx427, -, -, -, rfl⟩ := hi425.dep 1 43 rfl rfl
                    obtain ⟨_, _, _, hx428, -, -, -, rfl⟩ := hi425.dep 4 46 rfl rfl
                    obtain ⟨_, _, _, hx429, -, -, -, rfl⟩ := hi425.dep 7 49 rfl rfl
                    exact OpR.want rfl rfl hx427 hb284 (Yl.sameI (yl_eql rfl hx428 hx429 ⟨fun _ _ => rfl, rfl⟩))
                  · intro L430 w431 hi432
                    have hE433 := hi432.ex
                    have hE433z := Ex.size hE433
                    obtain ⟨_, _, _, hx434, -, -, -, rfl⟩ := hi432.dep 8 50 rfl rfl
                    obtain ⟨_, _, _, hx435, -, -, -, rfl⟩ := hi432.dep 1 43 rfl rfl
                    exact OpR.op' rfl (Yl.sameI (yl_pick_f rfl hx435 hb284 hx434 ⟨fun _ _ => rfl, rfl⟩))
                  · intro L436 w437 hi438
                    have hE439 := hi438.ex
                    have hE439z := Ex.size hE439
                    obtain ⟨_, _, _, hx440, -, -, -, rfl⟩ := hi438.dep 9 51 rfl rfl
                    exact OpR.op' rfl (Yl.sameI (yl_assign rfl hx440 ⟨fun _ _ => rfl, rfl⟩))
                  · intro fl444 fh445 L441 w442 hp443
                    have hE446 := hp443.ex
                    have hE446z := Ex.size hE446
                    have hx447 := hp443.old 0 _ rfl rfl
                    have hx448 := hp443.old 1 _ rfl rfl
                    have hx449 := hp443.old 5 _ rfl rfl
                    have hx450 := hp443.old 7 _ rfl rfl
                    have hx451 := hp443.old 19 _ rfl rfl
                    have hx452 := hp443.old 20 _ rfl rfl
                    have hx453 := hp443.old 21 _ rfl rfl
                    have hx454 := hp443.old 22 _ rfl rfl
                    have hx455 := hp443.old 25 _ rfl rfl
                    have hx456 := hp443.old 26 _ rfl rfl
                    have hx457 := hp443.old 27 _ rfl rfl
                    have hx458 := hp443.old 28 _ rfl rfl
                    have hx459 := hp443.old 29 _ rfl rfl
                    have hx460 := hp443.old 30 _ rfl rfl
                    have hx461 := hp443.old 31 _ rfl rfl
                    have hx462 := hp443.old 32 _ rfl rfl
                    have hx463 := hp443.old 33 _ rfl rfl
                    have hx464 := hp443.old 34 _ rfl rfl
                    obtain ⟨_, hx465, rfl⟩ := hp443.new 2 44 rfl rfl
                    obtain ⟨_, hx466, rfl⟩ := hp443.new 3 45 rfl rfl
                    obtain ⟨_, hx467, rfl⟩ := hp443.new 4 46 rfl rfl
                    obtain ⟨_, hx468, rfl⟩ := hp443.new 5 47 rfl rfl
                    obtain ⟨_, hx469, rfl⟩ := hp443.new 6 48 rfl rfl
                    obtain ⟨_, hx470, rfl⟩ := hp443.new 7 49 rfl rfl
                    obtain ⟨_, hx471, rfl⟩ := hp443.new 8 50 rfl rfl
                    obtain ⟨_, hx472, rfl⟩ := hp443.new 10 6 rfl rfl
                    refine SeqR.done ?_
                    refine bn ?_
                    refine tn ?_
                    refine CW.sub (Sub.cons (d := 0) hx447 (Sub.cons (d := 1) hx448 (Sub.cons (d := 5) hx449 (Sub.cons (d := 6) hx472 (Sub.cons (d := 7) hx450 (Sub.cons (d := 19) hx451 (Sub.cons (d := 20) hx452 (Sub.cons (d := 21) hx453 (Sub.cons (d := 22) hx454 (Sub.cons (d := 25) hx455 (Sub.cons (d := 26) hx456 (Sub.cons (d := 27) hx457 (Sub.cons (d := 28) hx458 (Sub.cons (d := 29) hx459 (Sub.cons (d := 30) hx460 (Sub.cons (d := 31) hx461 (Sub.cons (d := 32) hx462 (Sub.cons (d := 33) hx463 (Sub.cons (d := 34) hx464 (Sub.cons (d := 44) hx465 (Sub.cons (d := 45) hx466 (Sub.cons (d := 46) hx467 (Sub.cons (d := 47) hx468 (Sub.cons (d := 48) hx469 (Sub.cons (d := 49) hx470 (Sub.cons (d := 50) hx471 (Sub.nil _))))))))))))))))))))))))))) ?_
                    refine CW.region ?_
                    refine SeqR.d1 rfl rfl rfl (yl_move rfl rfl ?_)
                    refine SeqR.d1 rfl rfl rfl (yl_inc rfl rfl rfl (by omega) ?_)
                    refine SeqR.d1 rfl rfl rfl (yl_assign rfl rfl ?_)
                    refine SeqR.done ?_
                    refine tn ?_
                    have hB473 : B_s_l3Bytes_1 p_s p_more k5 k252 (x253) = .cont (decide (((p_s.getD k5 0).toNat : Int) = ((p_more.getD k252 0).toNat : Int))) := by simp only [B_s_l3Bytes_1, hb20, hb21, hb251, hb284, cond_true, cond_false, loopE_done, loopE_ret]
                    have q474 := Ex.trans hf281 hE446
                    exact ⟨p_more.length - (k252 + 1), by omega, k252 + 1, decide (((p_s.getD k5 0).toNat : Int) = ((p_more.getD k252 0).toNat : Int)), rfl, hlt283, rfl, rfl, rfl, rfl, rfl, rfl, rfl, rfl, rfl, rfl, rfl, rfl, rfl, rfl, rfl, rfl, rfl, rfl, rfl, q474, (loopM.cont hlt283 hB473).symm.trans hI261⟩
              · skip
                refine CW.seq ?_
                refine CW.seq ?_
                refine CW.region ?_
                refine SeqR.d1 rfl rfl rfl (yl_move rfl rfl ?_)
                refine SeqR.d1 rfl rfl rfl (yl_move rfl rfl ?_)
                refine SeqR.d1 rfl rfl rfl (yl_slen Try.un9 (a := p_more) rfl rfl ?_)
                refine SeqR.d1 rfl rfl rfl (yl_lss rfl rfl rfl ?_)
                refine SeqR.done ?_
                refine tn ?_
                refine CW.cond_f rfl (lt_f hlt283) ?_
                refine CW.exit ?_
                refine tx ?_
                refine tx ?_
                have hL475 : loopM (B_s_l3Bytes_1 p_s p_more k5) (p_more.length - 0) 0 (decide (((p_s.getD k5 0).toNat : Int) ≤ 57)) = .done (x253) := hI261.symm.trans (loopM.stop hlt283)
                refine bx ?_
                refine tn ?_
                refine CW.seq ?_
                refine CW.region ?_
                refine SeqR.d1 rfl rfl rfl (yl_move rfl rfl ?_)
                refine SeqR.d1 rfl rfl rfl (yl_not rfl rfl ?_)
                refine SeqR.done ?_
                refine tn ?_
                refine bcase (x253) (fun hb476 => ?_) (fun hb476 => ?_)
                · skip
                  refine CW.cond_f rfl (not_t hb476) ?_
                  refine CW.skip ?_
                  refine bn ?_
                  refine tn ?_
                  refine CW.region ?_
                  refine SeqR.d1 rfl rfl rfl (yl_move rfl rfl ?_)
                  refine SeqR.d1 rfl rfl rfl (yl_inc rfl rfl rfl (by omega) ?_)
                  refine SeqR.d1 rfl rfl rfl (yl_assign rfl rfl ?_)
                  refine SeqR.done ?_
                  refine tn ?_
                  have hB477 : B_s_l3Bytes_0 p_s p_more k5 () = .cont () := by simp only [B_s_l3Bytes_0, hb20, hb21, hb251, hb476, hL475, cond_true, cond_false, loopE_done, loopE_ret]
                  exact ⟨p_s.length - (k5 + 1), by omega, k5 + 1, rfl, hlt19, rfl, rfl, rfl, hf281, (loopM.cont hlt19 hB477).symm.trans hI13⟩
                · skip
                  refine CW.cond_t rfl (not_f hb476) ?_
                  refine CW.seq ?_
                  refine CW.region ?_
                  refine SeqR.d1 rfl rfl rfl (yl_assign rfl rfl ?_)
                  refine SeqR.done ?_
                  refine tn ?_
                  refine CW.ret ?_
                  refine br ?_
                  refine tr ?_
                  refine tr ?_
                  have hB479 : B_s_l3Bytes_0 p_s p_more k5 () = .ret false := by simp only [B_s_l3Bytes_0, hb20, hb21, hb251, hb476, hL475, cond_true, cond_false, loopE_done, loopE_ret]
                  have hL478 : loopM (B_s_l3Bytes_0 p_s p_more) (p_s.length - 0) 0 () = .ret false := hI13.symm.trans (loopM.ret hlt19 hB479)
                  refine br ?_
                  refine tr ?_
                  refine rr rfl (.cons rfl .nil) ?_
                  have hM480 : (s_l3Bytes p_s p_more) = (false) := by simp only [s_l3Bytes, hb20, hb21, hb251, hb476, hL475, hL478, cond_true, cond_false, loopE_done, loopE_ret]
                  rw [hM480]
                  exact ⟨rfl, hf281⟩
          · have hb251p := dec_f hb251
            refine SeqR.z rfl rfl rfl rfl rfl hb251 ?_
            refine SeqR.z rfl rfl rfl rfl rfl hb251 ?_
            refine SeqR.z rfl rfl rfl rfl rfl hb251 ?_
            refine SeqR.z rfl rfl rfl rfl rfl hb251 ?_
            refine SeqR.y rfl rfl rfl rfl rfl hb21 (yl_pick_f rfl rfl hb251 rfl ?_)
            refine SeqR.d1 rfl rfl rfl (yl_pick_f rfl rfl hb21 rfl ?_)
            refine SeqR.d1 rfl rfl rfl (yl_assign rfl rfl ?_)
            refine SeqR.done ?_
            refine tn ?_
            refine CW.seq ?_
            refine CW.seq ?_
            refine CW.region ?_
            refine SeqR.d1 rfl rfl rfl (yl_assign rfl rfl ?_)
            refine SeqR.done ?_
            refine tn ?_
            refine CW.block ?_
            refine CW.loop (fun m483 L484 w485 => ∃ (k481 : Nat) (x482 : Bool), m483 = p_more.length - k481 ∧ k481 ≤ p_more.length ∧ lkp L484 0 = some (.string (bs (p_s))) ∧ lkp L484 1 = some (.string (bs (p_more))) ∧ lkp L484 5 = some (.int .i64 ((k5 : Int))) ∧ lkp L484 6 = some (.bool (x482)) ∧ lkp L484 7 = some (.int .i64 ((k481 : Int))) ∧ lkp L484 19 = some (.string (bs (p_s))) ∧ lkp L484 20 = some (.int .i64 ((k5 : Int))) ∧ lkp L484 21 = some (.int .u8 (((p_s.getD k5 0).toNat : Int))) ∧ lkp L484 22 = some (.bool (decide (((p_s.getD k5 0).toNat : Int) ≤ 122))) ∧ lkp L484 25 = some (.string (bs (p_s))) ∧ lkp L484 26 = some (.int .i64 ((k5 : Int))) ∧ lkp L484 27 = some (.int .u8 (((p_s.getD k5 0).toNat : Int))) ∧ lkp L484 28 = some (.bool (decide (48 ≤ ((p_s.getD k5 0).toNat : Int)))) ∧ lkp L484 29 = some (.bool (decide (48 ≤ ((p_s.getD k5 0).toNat : Int)))) ∧ lkp L484 30 = some (undef) ∧ lkp L484 31 = some (undef) ∧ lkp L484 32 = some (undef) ∧ lkp L484 33 = some (undef) ∧ lkp L484 34 = some (.bool (false)) ∧ Ex w w485 ∧ loopM (B_s_l3Bytes_1 p_s p_more k5) (p_more.length - k481) k481 (x482) = loopM (B_s_l3Bytes_1 p_s p_more k5) (p_more.length - 0) 0 (false)) (p_more.length - 0) ?_ ?_
            · exact ⟨0, false, rfl, Nat.zero_le _, rfl, rfl, rfl, rfl, rfl, rfl, rfl, rfl, rfl, rfl, rfl, rfl, rfl, rfl, rfl, rfl, rfl, rfl, rfl, hf17, rfl⟩
            · rintro m486 L487 w488 ⟨k481, x482, rfl, hk489, hl491, hl492, hl493, hl494, hl495, hl496, hl497, hl498, hl499, hl500, hl501, hl502, hl503, hl504, hl505, hl506, hl507, hl508, hl509, hf510, hI490⟩
              refine CW.sub (Sub.cons hl491 (Sub.cons hl492 (Sub.cons hl493 (Sub.cons hl494 (Sub.cons hl495 (Sub.cons hl496 (Sub.cons hl497 (Sub.cons hl498 (Sub.cons hl499 (Sub.cons hl500 (Sub.cons hl501 (Sub.cons hl502 (Sub.cons hl503 (Sub.cons hl504 (Sub.cons hl505 (Sub.cons hl506 (Sub.cons hl507 (Sub.cons hl508 (Sub.cons hl509 (Sub.nil _)))))))))))))))))))) ?_
              have hf510z := Ex.size hf510
              have hbg511 : p_more.length ≤ 1073741824 := o2
              rcases Nat.lt_or_ge k481 p_more.length with hlt512 | hlt512
              · skip
                refine CW.seq ?_
                refine CW.seq ?_
                refine CW.region ?_
                refine SeqR.d1 rfl rfl rfl (yl_move rfl rfl ?_)
                refine SeqR.d1 rfl rfl rfl (yl_move rfl rfl ?_)
                refine SeqR.d1 rfl rfl rfl (yl_slen Try.un9 (a := p_more) rfl rfl ?_)
                refine SeqR.d1 rfl rfl rfl (yl_lss rfl rfl rfl ?_)
                refine SeqR.done ?_
                refine tn ?_
                refine CW.cond_t rfl (lt_t hlt512) ?_
                refine CW.skip ?_
                refine tn ?_
                refine CW.seq ?_
                refine CW.block ?_
                refine bcase (x482) (fun hb513 => ?_) (fun hb513 => ?_)
                · skip
                  refine CW.drawsI 11 (vgetI [DetI (.bool (x482)), DetI (.bool (x482)), DetI (undef), DetI (undef), DetI (undef), DetI (undef), DetI (undef), DetI (undef), DetI (undef), DetI (.bool (true)), DetI (.bool (true))]) Try.follows rfl rfl rfl rfl rfl rfl (vgetI_stable ⟨StableI.det _, StableI.det _, StableI.det _, StableI.det _, StableI.det _, StableI.det _, StableI.det _, StableI.det _, StableI.det _, StableI.det _, StableI.det _, trivial⟩) ⟨?_, ?_, ?_, ?_, ?_, ?_, ?_, ?_, ?_, ?_, ?_, trivial⟩ ?_
                  · intro L514 w515 hi516
                    have hE517 := hi516.ex
                    have hE517z := Ex.size hE517
                    have hx518 := hi516.old 6 _ rfl rfl
                    exact OpR.op' rfl (Yl.sameI (yl_move rfl hx518 ⟨fun _ _ => rfl, rfl⟩))
                  · intro L519 w520 hi521
                    have hE522 := hi521.ex
                    have hE522z := Ex.size hE522
                    obtain ⟨_, _, _, hx523, -, -, -, rfl⟩ := hi521.dep 0 42 rfl rfl
                    exact OpR.op' rfl (Yl.sameI (yl_move rfl hx523 ⟨fun _ _ => rfl, rfl⟩))
                  · intro L524 w525 hi526
                    have hE527 := hi526.ex
                    have hE527z := Ex.size hE527
                    obtain ⟨_, _, _, hx528, -, -, -, rfl⟩ := hi526.dep 1 43 rfl rfl
                    exact OpR.skip rfl rfl hx528 hb513 ⟨rfl, Ex.refl _⟩
                  · intro L529 w530 hi531
                    have hE532 := hi531.ex
                    have hE532z := Ex.size hE532
                    obtain ⟨_, _, _, hx533, -, -, -, rfl⟩ := hi531.dep 1 43 rfl rfl
                    exact OpR.skip rfl rfl hx533 hb513 ⟨rfl, Ex.refl _⟩
                  · intro L534 w535 hi536
                    have hE537 := hi536.ex
                    have hE537z := Ex.size hE537
                    obtain ⟨_, _, _, hx538, -, -, -, rfl⟩ := hi536.dep 1 43 rfl rfl
                    exact OpR.skip rfl rfl hx538 hb513 ⟨rfl, Ex.refl _⟩
                  · intro L539 w540 hi541
                    have hE542 := hi541.ex
                    have hE542z := Ex.size hE542
                    obtain ⟨_, _, _, hx543, -, -, -, rfl⟩ := hi541.dep 1 43 rfl rfl
                    exact OpR.skip rfl rfl hx543 hb513 ⟨rfl, Ex.refl _⟩
                  · intro L544 w545 hi546
                    have hE547 := hi546.ex
                    have hE547z := Ex.size hE547
                    obtain ⟨_, _, _, hx548, -, -, -, rfl⟩ := hi546.dep 1 43 rfl rfl
                    exact OpR.skip rfl rfl hx548 hb513 ⟨rfl, Ex.refl _⟩
                  · intro L549 w550 hi551
                    have hE552 := hi551.ex
                    have hE552z := Ex.size hE552
                    obtain ⟨_, _, _, hx553, -, -, -, rfl⟩ := hi551.dep 1 43 rfl rfl
                    exact OpR.skip rfl rfl hx553 hb513 ⟨rfl, Ex.refl _⟩
                  · intro L554 w555 hi556
                    have hE557 := hi556.ex
                    have hE557z := Ex.size hE557
                    obtain ⟨_, _, _, hx558, -, -, -, rfl⟩ := hi556.dep 1 43 rfl rfl
                    exact OpR.skip rfl rfl hx558 hb513 ⟨rfl, Ex.refl _⟩
                  · intro L559 w560 hi561
                    have hE562 := hi561.ex
                    have hE562z := Ex.size hE562
                    obtain ⟨_, _, _, hx563, -, -, -, rfl⟩ := hi561.dep 8 50 rfl rfl
                    obtain ⟨_, _, _, hx564, -, -, -, rfl⟩ := hi561.dep 1 43 rfl rfl
                    exact OpR.op' rfl (Yl.sameI (yl_pick_t rfl hx564 hb513 rfl ⟨fun _ _ => rfl, rfl⟩))
                  · intro L565 w566 hi567
                    have hE568 := hi567.ex
                    have hE568z := Ex.size hE568
                    obtain ⟨_, _, _, hx569, -, -, -, rfl⟩ := hi567.dep 9 51 rfl rfl
                    exact OpR.op' rfl (Yl.sameI (yl_assign rfl hx569 ⟨fun _ _ => rfl, rfl⟩))
                  · intro fl573 fh574 L570 w571 hp572
                    have hE575 := hp572.ex
                    have hE575z := Ex.size hE575
                    have hx576 := hp572.old 0 _ rfl rfl
                    have hx577 := hp572.old 1 _ rfl rfl
                    have hx578 := hp572.old 5 _ rfl rfl
                    have hx579 := hp572.old 7 _ rfl rfl
                    have hx580 := hp572.old 19 _ rfl rfl
                    have hx581 := hp572.old 20 _ rfl rfl
                    have hx582 := hp572.old 21 _ rfl rfl
                    have hx583 := hp572.old 22 _ rfl rfl
                    have hx584 := hp572.old 25 _ rfl rfl
                    have hx585 := hp572.old 26 _ rfl rfl
                    have hx586 := hp572.old 27 _ rfl rfl
                    have hx587 := hp572.old 28 _ rfl rfl
                    have hx588 := hp572.old 29 _ rfl rfl
                    have hx589 := hp572.old 30 _ rfl rfl
                    have hx590 := hp572.old 31 _ rfl rfl
                    have hx591 := hp572.old 32 _ rfl rfl
                    have hx592 := hp572.old 33 _ rfl rfl
                    have hx593 := hp572.old 34 _ rfl rfl
                    obtain ⟨_, hx594, rfl⟩ := hp572.new 2 44 rfl rfl
                    obtain ⟨_, hx595, rfl⟩ := hp572.new 3 45 rfl rfl
                    obtain ⟨_, hx596, rfl⟩ := hp572.new 4 46 rfl rfl
                    obtain ⟨_, hx597, rfl⟩ := hp572.new 5 47 rfl rfl
                    obtain ⟨_, hx598, rfl⟩ := hp572.new 6 48 rfl rfl
                    obtain ⟨_, hx599, rfl⟩ := hp572.new 7 49 rfl rfl
                    obtain ⟨_, hx600, rfl⟩ := hp572.new 8 50 rfl rfl
                    obtain ⟨_, hx601, rfl⟩ := hp572.new 10 6 rfl rfl
                    refine SeqR.done ?_
                    refine bn ?_
                    refine tn ?_
                    refine CW.sub (Sub.cons (d := 0) hx576 (Sub.cons (d := 1) hx577 (Sub.cons (d := 5) hx578 (Sub.cons (d := 6) hx601 (Sub.cons (d := 7) hx579 (Sub.cons (d := 19) hx580 (Sub.cons (d := 20) hx581 (Sub.cons (d := 21) hx582 (Sub.cons (d := 22) hx583 (Sub.cons (d := 25) hx584 (Sub.cons (d := 26) hx585 (Sub.cons (d := 27) hx586 (Sub.cons (d := 28) hx587 (Sub.cons (d := 29) hx588 (Sub.cons (d := 30) hx589 (Sub.cons (d := 31) hx590 (Sub.cons (d := 32) hx591 (Sub.cons (d := 33) hx592 (Sub.cons (d := 34) hx593 (Sub.cons (d := 44) hx594 (Sub.cons (d := 45) hx595 (Sub.cons (d := 46) hx596 (Sub.cons (d := 47) hx597 (Sub.cons (d := 48) hx598 (Sub.cons (d := 49) hx599 (Sub.cons (d := 50) hx600 (Sub.nil _))))))))))))))))))))))))))) ?_
                    refine CW.region ?_
                    refine SeqR.d1 rfl rfl rfl (yl_move rfl rfl ?_)
                    refine SeqR.d1 rfl rfl rfl (yl_inc rfl rfl rfl (by omega) ?_)
                    refine SeqR.d1 rfl rfl rfl (yl_assign rfl rfl ?_)
                    refine SeqR.done ?_
                    refine tn ?_
                    have hB602 : B_s_l3Bytes_1 p_s p_more k5 k481 (x482) = .cont (true) := by simp only [B_s_l3Bytes_1, hb20, hb21, hb251, hb513, cond_true, cond_false, loopE_done, loopE_ret]
                    have q603 := Ex.trans hf510 hE575
                    exact ⟨p_more.length - (k481 + 1), by omega, k481 + 1, true, rfl, hlt512, rfl, rfl, rfl, rfl, rfl, rfl, rfl, rfl, rfl, rfl, rfl, rfl, rfl, rfl, rfl, rfl, rfl, rfl, rfl, q603, (loopM.cont hlt512 hB602).symm.trans hI490⟩
                · skip
                  refine CW.drawsI 11 (vgetI [DetI (.bool (x482)), DetI (.bool (x482)), DetI (.string (bs (p_s))), DetI (.int .i64 ((k5 : Int))), DetI (.int .u8 (((p_s.getD k5 0).toNat : Int))), DetI (.string (bs (p_more))), DetI (.int .i64 ((k481 : Int))), DetI (.int .u8 (((p_more.getD k481 0).toNat : Int))), DetI (.bool (decide (((p_s.getD k5 0).toNat : Int) = ((p_more.getD k481 0).toNat : Int)))), DetI (.bool (decide (((p_s.getD k5 0).toNat : Int) = ((p_more.getD k481 0).toNat : Int)))), DetI (.bool (decide (((p_s.getD k5 0).toNat : Int) = ((p_more.getD k481 0).toNat : Int))))]) Try.follows rfl rfl rfl rfl rfl rfl (vgetI_stable ⟨StableI.det _, StableI.det _, StableI.det _, StableI.det _, StableI.det _, StableI.det _, StableI.det _, StableI.det _, StableI.det _, StableI.det _, StableI.det _, trivial⟩) ⟨?_, ?_, ?_, ?_, ?_, ?_, ?_, ?_, ?_, ?_, ?_, trivial⟩ ?_
                  · intro L604 w605 hi606
                    have hE607 := hi606.ex
                    have hE607z := Ex.size hE607
                    have hx608 := hi606.old 6 _ rfl rfl
                    exact OpR.op' rfl (Yl.sameI (yl_move rfl hx608 ⟨fun _ _ => rfl, rfl⟩))
                  · intro L609 w610 hi611
                    have hE612 := hi611.ex
                    have hE612z := Ex.size hE612
                    obtain ⟨_, _, _, hx613, -, -, -, rfl⟩ := hi611.dep 0 42 rfl rfl
                    exact OpR.op' rfl (Yl.sameI (yl_move rfl hx613 ⟨fun _ _ => rfl, rfl⟩))
                  · intro L614 w615 hi616
                    have hE617 := hi616.ex
                    have hE617z := Ex.size hE617
                    obtain ⟨_, _, _, hx618, -, -, -, rfl⟩ := hi616.dep 1 43 rfl rfl
                    have hx619 := hi616.old 0 _ rfl rfl
                    exact OpR.want rfl rfl hx618 hb513 (Yl.sameI (yl_move rfl hx619 ⟨fun _ _ => rfl, rfl⟩))
                  · intro L620 w621 hi622
                    have hE623 := hi622.ex
                    have hE623z := Ex.size hE623
                    obtain ⟨_, _, _, hx624, -, -, -, rfl⟩ := hi622.dep 1 43 rfl rfl
                    have hx625 := hi622.old 5 _ rfl rfl
                    exact OpR.want rfl rfl hx624 hb513 (Yl.sameI (yl_move rfl hx625 ⟨fun _ _ => rfl, rfl⟩))
                  · intro L626 w627 hi628
                    have hE629 := hi628.ex
                    have hE629z := Ex.size hE629
                    obtain ⟨_, _, _, hx630, -, -, -, rfl⟩ := hi628.dep 1 43 rfl rfl
                    obtain ⟨_, _, _, hx631, -, -, -, rfl⟩ := hi628.dep 2 44 rfl rfl
                    obtain ⟨_, _, _, hx632, -, -, -, rfl⟩ := hi628.dep 3 45 rfl rfl
                    exact OpR.want rfl rfl hx630 hb513 (Yl.sameI (yl_sindexN Try.un9 (a := p_s) rfl hx631 hx632 (by first | omega | assumption | (simp only [IntKind.wrap_i64] at *; omega)) ⟨fun _ _ => rfl, rfl⟩))
                  · intro L633 w634 hi635
                    have hE636 := hi635.ex
                    have hE636z := Ex.size hE636
                    obtain ⟨_, _, _, hx637, -, -, -, rfl⟩ := hi635.dep 1 43 rfl rfl
                    have hx638 := hi635.old 1 _ rfl rfl
                    exact OpR.want rfl rfl hx637 hb513 (Yl.sameI (yl_move rfl hx638 ⟨fun _ _ => rfl, rfl⟩))
                  · intro L639 w640 hi641
                    have hE642 := hi641.ex
                    have hE642z := Ex.size hE642
                    obtain ⟨_, _, _, hx643, -, -, -, rfl⟩ := hi641.dep 1 43 rfl rfl
                    have hx644 := hi641.old 7 _ rfl rfl
                    exact OpR.want rfl rfl hx643 hb513 (Yl.sameI (yl_move rfl hx644 ⟨fun _ _ => rfl, rfl⟩))
                  · intro L645 w646 hi647
                    have hE648 := hi647.ex
                    have hE648z := Ex.size hE648
                    obtain ⟨_, _, _, hx649, -, -, -, rfl⟩ := hi647.dep 1 43 rfl rfl
                    obtain ⟨_, _, _, hx650, -, -, -, rfl⟩ := hi647.dep 5 47 rfl rfl
                    obtain ⟨_, _, _, hx651, -, -, -, rfl⟩ := hi647.dep 6 48 rfl rfl
                    exact OpR.want rfl rfl hx649 hb513 (Yl.sameI (yl_sindexN Try.un9 (a := p_more) rfl hx650 hx651 (by first | omega | assumption | (simp only [IntKind.wrap_i64] at *; omega)) ⟨fun _ _ => rfl, rfl⟩))
                  · intro L652 w653 hi654
                    have hE655 := hi654.ex
                    have hE655z := Ex.size hE655
                    obtain ⟨_, _, _, hx656, -, -, -, rfl⟩ := hi654.dep 1 43 rfl rfl
                    obtain ⟨_, _, _, hx657, -, -, -, rfl⟩ := hi654.dep 4 46 rfl rfl
                    obtain ⟨_, _, _, hx658, -, -, -, rfl⟩ := hi654.dep 7 49 rfl rfl
                    exact OpR.want rfl rfl hx656 hb513 (Yl.sameI (yl_eql rfl hx657 hx658 ⟨fun _ _ => rfl, rfl⟩))
                  · intro L659 w660 hi661
                    have hE662 := hi661.ex
                    have hE662z := Ex.size hE662
                    obtain ⟨_, _, _, hx663, -, -, -, rfl⟩ := hi661.dep 8 50 rfl rfl
                    obtain ⟨_, _, _, hx664, -, -, -, rfl⟩ := hi661.dep 1 43 rfl rfl
                    exact OpR.op' rfl (Yl.sameI (yl_pick_f rfl hx664 hb513 hx663 ⟨fun _ _ => rfl, rfl⟩))
                  · intro L665 w666 hi667
                    have hE668 := hi667.ex
                    have hE668z := Ex.size hE668
                    obtain ⟨_, _, _, hx669, -, -, -, rfl⟩ := hi667.dep 9 51 rfl rfl
                    exact OpR.op' rfl (Yl.sameI (yl_assign rfl hx669 ⟨fun _ _ => rfl, rfl⟩))
                  · intro fl673 fh674 L670 w671 hp672
                    have hE675 := hp672.ex
                    have hE675z := Ex.size hE675
                    have hx676 := hp672.old 0 _ rfl rfl
                    have hx677 := hp672.old 1 _ rfl rfl
                    have hx678 := hp672.old 5 _ rfl rfl
                    have hx679 := hp672.old 7 _ rfl rfl
                    have hx680 := hp672.old 19 _ rfl rfl
                    have hx681 := hp672.old 20 _ rfl rfl
                    have hx682 := hp672.old 21 _ rfl rfl
                    have hx683 := hp672.old 22 _ rfl rfl
                    have hx684 := hp672.old 25 _ rfl rfl
                    have hx685 := hp672.old 26 _ rfl rfl
                    have hx686 := hp672.old 27 _ rfl rfl
                    have hx687 := hp672.old 28 _ rfl rfl
                    have hx688 := hp672.old 29 _ rfl rfl
                    have hx689 := hp672.old 30 _ rfl rfl
                    have hx690 := hp672.old 31 _ rfl rfl
                    have hx691 := hp672.old 32 _ rfl rfl
                    have hx692 := hp672.old 33 _ rfl rfl
                    have hx693 := hp672.old 34 _ rfl rfl
                    obtain ⟨_, hx694, rfl⟩ := hp672.new 2 44 rfl rfl
                    obtain ⟨_, hx695, rfl⟩ := hp672.new 3 45 rfl rfl
                    obtain ⟨_, hx696, rfl⟩ := hp672.new 4 46 rfl rfl
                    obtain ⟨_, hx697, rfl⟩ := hp672.new 5 47 rfl rfl
                    obtain ⟨_, hx698, rfl⟩ := hp672.new 6 48 rfl rfl
                    obtain ⟨_, hx699, rfl⟩ := hp672.new 7 49 rfl rfl
                    obtain ⟨_, hx700, rfl⟩ := hp672.new 8 50 rfl rfl
                    obtain ⟨_, hx701, rfl⟩ := hp672.new 10 6 rfl rfl
                    refine SeqR.done ?_
                    refine bn ?_
                    refine tn ?_
                    refine CW.sub (Sub.cons (d := 0) hx676 (Sub.cons (d := 1) hx677 (Sub.cons (d := 5) hx678 (Sub.cons (d := 6) hx701 (Sub.cons (d := 7) hx679 (Sub.cons (d := 19) hx680 (Sub.cons (d := 20) hx681 (Sub.cons (d := 21) hx682 (Sub.cons (d := 22) hx683 (Sub.cons (d := 25) hx684 (Sub.cons (d := 26) hx685 (Sub.cons (d := 27) hx686 (Sub.cons (d := 28) hx687 (Sub.cons (d := 29) hx688 (Sub.cons (d := 30) hx689 (Sub.cons (d := 31) hx690 (Sub.cons (d := 32) hx691 (Sub.cons (d := 33) hx692 (Sub.cons (d := 34) hx693 (Sub.cons (d := 44) hx694 (Sub.cons (d := 45) hx695 (Sub.cons (d := 46) hx696 (Sub.cons (d := 47) hx697 (Sub.cons (d := 48) hx698 (Sub.cons (d := 49) hx699 (Sub.cons (d := 50) hx700 (Sub.nil _))))))))))))))))))))))))))) ?_
                    refine CW.region ?_
                    refine SeqR.d1 rfl rfl rfl (yl_move rfl rfl ?_)
                    refine SeqR.d1 rfl rfl rfl (yl_inc rfl rfl rfl (by omega) ?_)
                    refine SeqR.d1 rfl rfl rfl (yl_assign rfl rfl ?_)
                    refine SeqR.done ?_
                    refine tn ?_
                    have hB702 : B_s_l3Bytes_1 p_s p_more k5 k481 (x482) = .cont (decide (((p_s.getD k5 0).toNat : Int) = ((p_more.getD k481 0).toNat : Int))) := by simp only [B_s_l3Bytes_1, hb20, hb21, hb251, hb513, cond_true, cond_false, loopE_done, loopE_ret]
                    have q703 := Ex.trans hf510 hE675
                    exact ⟨p_more.length - (k481 + 1), by omega, k481 + 1, decide (((p_s.getD k5 0).toNat : Int) = ((p_more.getD k481 0).toNat : Int)), rfl, hlt512, rfl, rfl, rfl, rfl, rfl, rfl, rfl, rfl, rfl, rfl, rfl, rfl, rfl, rfl, rfl, rfl, rfl, rfl, rfl, q703, (loopM.cont hlt512 hB702).symm.trans hI490⟩
              · skip
                refine CW.seq ?_
                refine CW.seq ?_
                refine CW.region ?_
                refine SeqR.d1 rfl rfl rfl (yl_move rfl rfl ?_)
                refine SeqR.d1 rfl rfl rfl (yl_move rfl rfl ?_)
                refine SeqR.d1 rfl rfl rfl (yl_slen Try.un9 (a := p_more) rfl rfl ?_)
                refine SeqR.d1 rfl rfl rfl (yl_lss rfl rfl rfl ?_)
                refine SeqR.done ?_
                refine tn ?_
                refine CW.cond_f rfl (lt_f hlt512) ?_
                refine CW.exit ?_
                refine tx ?_
                refine tx ?_
                have hL704 : loopM (B_s_l3Bytes_1 p_s p_more k5) (p_more.length - 0) 0 (false) = .done (x482) := hI490.symm.trans (loopM.stop hlt512)
                refine bx ?_
                refine tn ?_
                refine CW.seq ?_
                refine CW.region ?_
                refine SeqR.d1 rfl rfl rfl (yl_move rfl rfl ?_)
                refine SeqR.d1 rfl rfl rfl (yl_not rfl rfl ?_)
                refine SeqR.done ?_
                refine tn ?_
                refine bcase (x482) (fun hb705 => ?_) (fun hb705 => ?_)
                · skip
                  refine CW.cond_f rfl (not_t hb705) ?_
                  refine CW.skip ?_
                  refine bn ?_
                  refine tn ?_
                  refine CW.region ?_
                  refine SeqR.d1 rfl rfl rfl (yl_move rfl rfl ?_)
                  refine SeqR.d1 rfl rfl rfl (yl_inc rfl rfl rfl (by omega) ?_)
                  refine SeqR.d1 rfl rfl rfl (yl_assign rfl rfl ?_)
                  refine SeqR.done ?_
                  refine tn ?_
                  have hB706 : B_s_l3Bytes_0 p_s p_more k5 () = .cont () := by simp only [B_s_l3Bytes_0, hb20, hb21, hb251, hb705, hL704, cond_true, cond_false, loopE_done, loopE_ret]
                  exact ⟨p_s.length - (k5 + 1), by omega, k5 + 1, rfl, hlt19, rfl, rfl, rfl, hf510, (loopM.cont hlt19 hB706).symm.trans hI13⟩
                · skip
                  refine CW.cond_t rfl (not_f hb705) ?_
                  refine CW.seq ?_
                  refine CW.region ?_
                  refine SeqR.d1 rfl rfl rfl (yl_assign rfl rfl ?_)
                  refine SeqR.done ?_
                  refine tn ?_
                  refine CW.ret ?_
                  refine br ?_
                  refine tr ?_
                  refine tr ?_
                  have hB708 : B_s_l3Bytes_0 p_s p_more k5 () = .ret false := by simp only [B_s_l3Bytes_0, hb20, hb21, hb251, hb705, hL704, cond_true, cond_false, loopE_done, loopE_ret]
                  have hL707 : loopM (B_s_l3Bytes_0 p_s p_more) (p_s.length - 0) 0 () = .ret false := hI13.symm.trans (loopM.ret hlt19 hB708)
                  refine br ?_
                  refine tr ?_
                  refine rr rfl (.cons rfl .nil) ?_
                  have hM709 : (s_l3Bytes p_s p_more) = (false) := by simp only [s_l3Bytes, hb20, hb21, hb251, hb705, hL704, hL707, cond_true, cond_false, loopE_done, loopE_ret]
                  rw [hM709]
                  exact ⟨rfl, hf510⟩
      · have hb20p := dec_f hb20
        refine SeqR.z rfl rfl rfl rfl rfl hb20 ?_
        refine SeqR.z rfl rfl rfl rfl rfl hb20 ?_
        refine SeqR.z rfl rfl rfl rfl rfl hb20 ?_
        refine SeqR.z rfl rfl rfl rfl rfl hb20 ?_
        refine SeqR.d1 rfl rfl rfl (yl_pick_f rfl rfl hb20 rfl ?_)
        refine SeqR.d1 rfl rfl rfl (yl_move rfl rfl ?_)
        refine SeqR.y rfl rfl rfl rfl rfl rfl (yl_move rfl rfl ?_)
        refine SeqR.y rfl rfl rfl rfl rfl rfl (yl_move rfl rfl ?_)
        refine SeqR.y rfl rfl rfl rfl rfl rfl (yl_sindexN Try.un9 (a := p_s) rfl rfl rfl (by first | omega | assumption | (simp only [IntKind.wrap_i64] at *; omega)) ?_)
        refine SeqR.y rfl rfl rfl rfl rfl rfl (yl_geq rfl rfl rfl ?_)
        refine SeqR.y rfl rfl rfl rfl rfl rfl (yl_move rfl rfl ?_)
        refine bcase (decide (48 ≤ ((p_s.getD k5 0).toNat : Int))) (fun hb710 => ?_) (fun hb710 => ?_)
        · have hb710p := dec_t hb710
          refine SeqR.y rfl rfl rfl rfl rfl hb710 (yl_move rfl rfl ?_)
          refine SeqR.y rfl rfl rfl rfl rfl hb710 (yl_move rfl rfl ?_)
          refine SeqR.y rfl rfl rfl rfl rfl hb710 (yl_sindexN Try.un9 (a := p_s) rfl rfl rfl (by first | omega | assumption | (simp only [IntKind.wrap_i64] at *; omega)) ?_)
          refine SeqR.y rfl rfl rfl rfl rfl hb710 (yl_leq rfl rfl rfl ?_)
          refine SeqR.y rfl rfl rfl rfl rfl rfl (yl_pick_t rfl rfl hb710 rfl ?_)
          refine SeqR.d1 rfl rfl rfl (yl_pick_f rfl rfl rfl rfl ?_)
          refine SeqR.d1 rfl rfl rfl (yl_assign rfl rfl ?_)
          refine SeqR.done ?_
          refine tn ?_
          refine CW.seq ?_
          refine CW.seq ?_
          refine CW.region ?_
          refine SeqR.d1 rfl rfl rfl (yl_assign rfl rfl ?_)
          refine SeqR.done ?_
          refine tn ?_
          refine CW.block ?_
          refine CW.loop (fun m713 L714 w715 => ∃ (k711 : Nat) (x712 : Bool), m713 = p_more.length - k711 ∧ k711 ≤ p_more.length ∧ lkp L714 0 = some (.string (bs (p_s))) ∧ lkp L714 1 = some (.string (bs (p_more))) ∧ lkp L714 5 = some (.int .i64 ((k5 : Int))) ∧ lkp L714 6 = some (.bool (x712)) ∧ lkp L714 7 = some (.int .i64 ((k711 : Int))) ∧ lkp L714 19 = some (undef) ∧ lkp L714 20 = some (undef) ∧ lkp L714 21 = some (undef) ∧ lkp L714 22 = some (undef) ∧ lkp L714 25 = some (.string (bs (p_s))) ∧ lkp L714 26 = some (.int .i64 ((k5 : Int))) ∧ lkp L714 27 = some (.int .u8 (((p_s.getD k5 0).toNat : Int))) ∧ lkp L714 28 = some (.bool (decide (48 ≤ ((p_s.getD k5 0).toNat : Int)))) ∧ lkp L714 29 = some (.bool (decide (48 ≤ ((p_s.getD k5 0).toNat : Int)))) ∧ lkp L714 30 = some (.string (bs (p_s))) ∧ lkp L714 31 = some (.int .i64 ((k5 : Int))) ∧ lkp L714 32 = some (.int .u8 (((p_s.getD k5 0).toNat : Int))) ∧ lkp L714 33 = some (.bool (decide (((p_s.getD k5 0).toNat : Int) ≤ 57))) ∧ lkp L714 34 = some (.bool (decide (((p_s.getD k5 0).toNat : Int) ≤ 57))) ∧ Ex w w715 ∧ loopM (B_s_l3Bytes_1 p_s p_more k5) (p_more.length - k711) k711 (x712) = loopM (B_s_l3Bytes_1 p_s p_more k5) (p_more.length - 0) 0 (decide (((p_s.getD k5 0).toNat : Int) ≤ 57))) (p_more.length - 0) ?_ ?_
          · exact ⟨0, decide (((p_s.getD k5 0).toNat : Int) ≤ 57), rfl, Nat.zero_le _, rfl, rfl, rfl, rfl, rfl, rfl, rfl, rfl, rfl, rfl, rfl, rfl, rfl, rfl, rfl, rfl, rfl, rfl, rfl, hf17, rfl⟩
          · rintro m716 L717 w718 ⟨k711, x712, rfl, hk719, hl721, hl722, hl723, hl724, hl725, hl726, hl727, hl728, hl729, hl730, hl731, hl732, hl733, hl734, hl735, hl736, hl737, hl738, hl739, hf740, hI720⟩
            refine CW.sub (Sub.cons hl721 (Sub.cons hl722 (Sub.cons hl723 (Sub.cons hl724 (Sub.cons hl725 (Sub.cons hl726 (Sub.cons hl727 (Sub.cons hl728 (Sub.cons hl729 (Sub.cons hl730 (Sub.cons hl731 (Sub.cons hl732 (Sub.cons hl733 (Sub.cons hl734 (Sub.cons hl735 (Sub.cons hl736 (Sub.cons hl737 (Sub.cons hl738 (Sub.cons hl739 (Sub.nil _)))))))))))))))))))) ?_
            have hf740z := Ex.size hf740
            have hbg741 : p_more.length ≤ 1073741824 := o2
            rcases Nat.lt_or_ge k711 p_more.length with hlt742 | hlt742
            · skip
              refine CW.seq ?_
              refine CW.seq ?_
              refine CW.region ?_
              refine SeqR.d1 rfl rfl rfl (yl_move rfl rfl ?_)
              refine SeqR.d1 rfl rfl rfl (yl_move rfl rfl ?_)
              refine SeqR.d1 rfl rfl rfl (yl_slen Try.un9 (a := p_more) rfl rfl ?_)
              refine SeqR.d1 rfl rfl rfl (yl_lss rfl rfl rfl ?_)
              refine SeqR.done ?_
              refine tn ?_
              refine CW.cond_t rfl (lt_t hlt742) ?_
              refine CW.skip ?_
              refine tn ?_
              refine CW.seq ?_
              refine CW.block ?_
              refine bcase (x712) (fun hb743 => ?_) (fun hb743 => ?_)
              · skip
                refine CW.drawsI 11 (vgetI [DetI (.bool (x712)), DetI (.bool (x712)), DetI (undef), DetI (undef), DetI (undef), DetI (undef), DetI (undef), DetI (undef), DetI (undef), DetI (.bool (true)), DetI (.bool (true))]) Try.follows rfl rfl rfl rfl rfl rfl (vgetI_stable ⟨StableI.det _, StableI.det _, StableI.det _, StableI.det _, StableI.det _, StableI.det _, StableI.det _, StableI.det _, StableI.det _, StableI.det _, StableI.det _, trivial⟩) ⟨?_, ?_, ?_, ?_, ?_, ?_, ?_, ?_, ?_, ?_, ?_, trivial⟩ ?_
                · intro L744 w745 hi746
                  have hE747 := hi746.ex
                  have hE747z := Ex.size hE747
                  have hx748 := hi746.old 6 _ rfl rfl
                  exact OpR.op' rfl (Yl.sameI (yl_move rfl hx748 ⟨fun _ _ => rfl, rfl⟩))
                · intro L749 w750 hi751
                  have hE752 := hi751.ex
                  have hE752z := Ex.size hE752
                  obtain ⟨_, _, _, hx753, -, -, -, rfl⟩ := hi751.dep 0 42 rfl rfl
                  exact OpR.op' rfl (Yl.sameI (yl_move rfl hx753 ⟨fun _ _ => rfl, rfl⟩))
                · intro L754 w755 hi756
                  have hE757 := hi756.ex
                  have hE757z := Ex.size hE757
                  obtain ⟨_, _, _, hx758, -, -, -, rfl⟩ := hi756.dep 1 43 rfl rfl
                  exact OpR.skip rfl rfl hx758 hb743 ⟨rfl, Ex.refl _⟩
                · intro L759 w760 hi761
                  have hE762 := hi761.ex
                  have hE762z := Ex.size hE762
                  obtain ⟨_, _, _, hx763, -, -, -, rfl⟩ := hi761.dep 1 43 rfl rfl
                  exact OpR.skip rfl rfl hx763 hb743 ⟨rfl, Ex.refl _⟩
                · intro L764 w765 hi766
                  have hE767 := hi766.ex
                  have hE767z := Ex.size hE767
                  obtain ⟨_, _, _, hx768, -, -, -, rfl⟩ := hi766.dep 1 43 rfl rfl
                  exact OpR.skip rfl rfl hx768 hb743 ⟨rfl, Ex.refl _⟩
                · intro L769 w770 hi771
                  have hE772 := hi771.ex
                  have hE772z := Ex.size hE772
                  obtain ⟨_, _, _, hx773, -, -, -, rfl⟩ := hi771.dep 1 43 rfl rfl
                  exact OpR.skip rfl rfl hx773 hb743 ⟨rfl, Ex.refl _⟩
                · intro L774 w775 hi776
                  have hE777 := hi776.ex
                  have hE777z := Ex.size hE777
                  obtain ⟨_, _, _, hx778, -, -, -, rfl⟩ := hi776.dep 1 43 rfl rfl
                  exact OpR.skip rfl rfl hx778 hb743 ⟨rfl, Ex.refl _⟩
                · intro L779 w780 hi781
                  have hE782 := hi781.ex
                  have hE782z := Ex.size hE782
                  obtain ⟨_, _, _, hx783, -, -, -, rfl⟩ := hi781.dep 1 43 rfl rfl
                  exact OpR.skip rfl rfl hx783 hb743 ⟨rfl, Ex.refl _⟩
                · intro L784 w785 hi786
                  have hE787 := hi786.ex
                  have hE787z := Ex.size hE787
                  obtain ⟨_, _, _, hx788, -, -, -, rfl⟩ := hi786.dep 1 43 rfl rfl
                  exact OpR.skip rfl rfl hx788 hb743 ⟨rfl, Ex.refl _⟩
                · intro L789 w790 hi791
                  have hE792 := hi791.ex
                  have hE792z := Ex.size hE792
                  obtain ⟨_, _, _, hx793, -, -, -, rfl⟩ := hi791.dep 8 50 rfl rfl
                  obtain ⟨_, _, _, hx794, -, -, -, rfl⟩ := hi791.dep 1 43 rfl rfl
                  exact OpR.op' rfl (Yl.sameI (yl_pick_t rfl hx794 hb743 rfl ⟨fun _ _ => rfl, rfl⟩))
                · intro L795 w796 hi797
                  have hE798 := hi797.ex
                  have hE798z := Ex.size hE798
                  obtain ⟨_, _, _, hx799, -, -, -, rfl⟩ := hi797.dep 9 51 rfl rfl
                  exact OpR.op' rfl (Yl.sameI (yl_assign rfl hx799 ⟨fun _ _ => rfl, rfl⟩))
                · intro fl803 fh804 L800 w801 hp802
                  have hE805 := hp802.ex
                  have hE805z := Ex.size hE805
                  have hx806 := hp802.old 0 _ rfl rfl
                  have hx807 := hp802.old 1 _ rfl rfl
                  have hx808 := hp802.old 5 _ rfl rfl
                  have hx809 := hp802.old 7 _ rfl rfl
                  have hx810 := hp802.old 19 _ rfl rfl
                  have hx811 := hp802.old 20 _ rfl rfl
                  have hx812 := hp802.old 21 _ rfl rfl
                  have hx813 := hp802.old 22 _ rfl rfl
                  have hx814 := hp802.old 25 _ rfl rfl
                  have hx815 := hp802.old 26 _ rfl rfl
                  have hx816 := hp802.old 27 _ rfl rfl
                  have hx817 := hp802.old 28 _ rfl rfl
                  have hx818 := hp802.old 29 _ rfl rfl
                  have hx819 := hp802.old 30 _ rfl rfl
                  have hx820 := hp802.old 31 _ rfl rfl
                  have hx821 := hp802.old 32 _ rfl rfl
                  have hx822 := hp802.old 33 _ rfl rfl
                  have hx823 := hp802.old 34 _ rfl rfl
                  obtain ⟨_, hx824, rfl⟩ := hp802.new 2 44 rfl rfl
                  obtain ⟨_, hx825, rfl⟩ := hp802.new 3 45 rfl rfl
                  obtain ⟨_, hx826, rfl⟩ := hp802.new 4 46 rfl rfl
                  obtain ⟨_, hx827, rfl⟩ := hp802.new 5 47 rfl rfl
                  obtain ⟨_, hx828, rfl⟩ := hp802.new 6 48 rfl rfl
                  obtain ⟨_, hx829, rfl⟩ := hp802.new 7 49 rfl rfl
                  obtain ⟨_, hx830, rfl⟩ := hp802.new 8 50 rfl rfl
                  obtain ⟨_, hx831, rfl⟩ := hp802.new 10 6 rfl rfl
                  refine SeqR.done ?_
                  refine bn ?_
                  refine tn ?_
                  refine CW.sub (Sub.cons (d := 0) hx806 (Sub.cons (d := 1) hx807 (Sub.cons (d := 5) hx808 (Sub.cons (d := 6) hx831 (Sub.cons (d := 7) hx809 (Sub.cons (d := 19) hx810 (Sub.cons (d := 20) hx811 (Sub.cons (d := 21) hx812 (Sub.cons (d := 22) hx813 (Sub.cons (d := 25) hx814 (Sub.cons (d := 26) hx815 (Sub.cons (d := 27) hx816 (Sub.cons (d := 28) hx817 (Sub.cons (d := 29) hx818 (Sub.cons (d := 30) hx819 (Sub.cons (d := 31) hx820 (Sub.cons (d := 32) hx821 (Sub.cons (d := 33) hx822 (Sub.cons (d := 34) hx823 (Sub.cons (d := 44) hx824 (Sub.cons (d := 45) hx825 (Sub.cons (d := 46) hx826 (Sub.cons (d := 47) hx827 (Sub.cons (d := 48) hx828 (Sub.cons (d := 49) hx829 (Sub.cons (d := 50) hx830 (Sub.nil _))))))))))))))))))))))))))) ?_
                  refine CW.region ?_
                  refine SeqR.d1 rfl rfl rfl (yl_move rfl rfl ?_)
                  refine SeqR.d1 rfl rfl rfl (yl_inc rfl rfl rfl (by omega) ?_)
                  refine SeqR.d1 rfl rfl rfl (yl_assign rfl rfl ?_)
                  refine SeqR.done ?_
                  refine tn ?_
                  have hB832 : B_s_l3Bytes_1 p_s p_more k5 k711 (x712) = .cont (true) := by simp only [B_s_l3Bytes_1, hb20, hb710, hb743, cond_true, cond_false, loopE_done, loopE_ret]
                  have q833 := Ex.trans hf740 hE805
                  exact ⟨p_more.length - (k711 + 1), by omega, k711 + 1, true, rfl, hlt742, rfl, rfl, rfl, rfl, rfl, rfl, rfl, rfl, rfl, rfl, rfl, rfl, rfl, rfl, rfl, rfl, rfl, rfl, rfl, q833, (loopM.cont hlt742 hB832).symm.trans hI720⟩
              · skip
                refine CW.drawsI 11 (vgetI [DetI (.bool (x712)), DetI (.bool (x712)), DetI (.string (bs (p_s))), DetI (.int .i64 ((k5 : Int))), DetI (.int .u8 (((p_s.getD k5 0).toNat : Int))), DetI (.string (bs (p_more))), DetI (.int .i64 ((k711 : Int))), DetI (.int .u8 (((p_more.getD k711 0).toNat : Int))), DetI (.bool (decide (((p_s.getD k5 0).toNat : Int) = ((p_more.getD k711 0).toNat : Int)))), DetI (.bool (decide (((p_s.getD k5 0).toNat : Int) = ((p_more.getD k711 0).toNat : Int)))), DetI (.bool (decide (((p_s.getD k5 0).toNat : Int) = ((p_more.getD k711 0).toNat : Int))))]) Try.follows rfl rfl rfl rfl rfl rfl (vgetI_stable ⟨StableI.det _, StableI.det _, StableI.det _, StableI.det _, StableI.det _, StableI.det _, StableI.det _, StableI.det _, StableI.det _, StableI.det _, StableI.det _, trivial⟩) ⟨?_, ?_, ?_, ?_, ?_, ?_, ?_, ?_, ?_, ?_, ?_, trivial⟩ ?_
                · intro L834 w835 hi836
                  have hE837 := hi836.ex
                  have hE837z := Ex.size hE837
                  have hx838 := hi836.old 6 _ rfl rfl
                  exact OpR.op' rfl (Yl.sameI (yl_move rfl hx838 ⟨fun _ _ => rfl, rfl⟩))
                · intro L839 w840 hi841
                  have hE842 := hi841.ex
                  have hE842z := Ex.size hE842
                  obtain ⟨_, _, _, hx843, -, -, -, rfl⟩ := hi841.dep 0 42 rfl rfl
                  exact OpR.op' rfl (Yl.sameI (yl_move rfl hx843 ⟨fun _ _ => rfl, rfl⟩))
                · intro L844 w845 hi846
                  have hE847 := hi846.ex
                  have hE847z := Ex.size hE847
                  obtain ⟨_, _, _, hx848, -, -, -, rfl⟩ := hi846.dep 1 43 rfl rfl
                  have hx849 := hi846.old 0 _ rfl rfl
                  exact OpR.want rfl rfl hx848 hb743 (Yl.sameI (yl_move rfl hx849 ⟨fun _ _ => rfl, rfl⟩))
                · intro L850 w851 hi852
                  have hE853 := hi852.ex
                  have hE853z := Ex.size hE853
                  obtain ⟨_, _, _, hx854, -, -, -, rfl⟩ := hi852.dep 1 43 rfl rfl
                  have hx855 := hi852.old 5 _ rfl rfl
                  exact OpR.want rfl rfl hx854 hb743 (Yl.sameI (yl_move rfl hx855 ⟨fun _ _ => rfl, rfl⟩))
                · intro L856 w857 hi858
                  have hE859 := hi858.ex
                  have hE859z := Ex.size hE859
                  obtain ⟨_, _, _, hx860, -, -, -, rfl⟩ := hi858.dep 1 43 rfl rfl
                  obtain ⟨_, _, _, hx861, -, -, -, rfl⟩ := hi858.dep 2 44 rfl rfl
                  obtain ⟨_, _, _, hx862, -, -, -, rfl⟩ := hi858.dep 3 45 rfl rfl
                  exact OpR.want rfl rfl hx860 hb743 (Yl.sameI (yl_sindexN Try.un9 (a := p_s) rfl hx861 hx862 (by first | omega | assumption | (simp only [IntKind.wrap_i64] at *; omega)) ⟨fun _ _ => rfl, rfl⟩))
                · intro L863 w864 hi865
                  have hE866 := hi865.ex
                  have hE866z := Ex.size hE866
                  obtain ⟨_, _, _, hx867, -, -, -, rfl⟩ := hi865.dep 1 43 rfl rfl
                  have hx868 := hi865.old 1 _ rfl rfl
                  exact OpR.want rfl rfl hx867 hb743 (Yl.sameI (yl_move rfl hx868 ⟨fun _ _ => rfl, rfl⟩))
                · intro L869 w870 hi871
                  have hE872 := hi871.ex
                  have hE872z := Ex.size hE872
                  obtain ⟨_, _, _, hx873, -, -, -, rfl⟩ := hi871.dep 1 43 rfl rfl
                  have hx874 := hi871.old 7 _ rfl rfl
                  exact OpR.want rfl rfl hx873 hb743 (Yl.sameI (yl_move rfl hx874 ⟨fun _ _ => rfl, rfl⟩))
                · intro L875 w876 hi877
                  have hE878 := hi877.ex
                  have hE878z := Ex.size hE878
                  obtain ⟨_, _, _, hx879, -, -, -, rfl⟩ := hi877.dep 1 43 rfl rfl
                  obtain ⟨_, _, _, hx880, -, -, -, rfl⟩ := hi877.dep 5 47 rfl rfl
                  obtain ⟨_, _, _, hx881, -, -, -, rfl⟩ := hi877.dep 6 48 rfl rfl
                  exact OpR.want rfl rfl hx879 hb743 (Yl.sameI (yl_sindexN Try.un9 (a := p_more) rfl hx880 hx881 (by first | omega | assumption | (simp only [IntKind.wrap_i64] at *; omega)) ⟨fun _ _ => rfl, rfl⟩))
                · intro L882 w883 hi884
                  have hE885 := hi884.ex
                  have hE885z := Ex.size hE885
                  obtain ⟨_, _, _, hx886, -, -, -, rfl⟩ := hi884.dep 1 43 rfl rfl
                  obtain ⟨_, _, _, hx887, -, -, -, rfl⟩ := hi884.dep 4 46 rfl rfl
                  obtain ⟨_, _, _, hx888, -, -, -, rfl⟩ := hi884.dep 7 49 rfl rfl
                  exact OpR.want rfl rfl hx886 hb743 (Yl.sameI (yl_eql rfl hx887 hx888 ⟨fun _ _ => rfl, rfl⟩))
                · intro L889 w890 hi891
                  have hE892 := hi891.ex
                  have hE892z := Ex.size hE892
                  obtain ⟨_, _, _, hx893, -, -, -, rfl⟩ := hi891.dep 8 50 rfl rfl
                  obtain ⟨_, _, _, hx894, -, -, -, rfl⟩ := hi891.dep 1 43 rfl rfl
                  exact OpR.op' rfl (Yl.sameI (yl_pick_f rfl hx894 hb743 hx893 ⟨fun _ _ => rfl, rfl⟩))
                · intro L895 w896 hi897
                  have hE898 := hi897.ex
                  have hE898z := Ex.size hE898
                  obtain ⟨_, _, _, hx899, -, -, -, rfl⟩ := hi897.dep 9 51 rfl rfl
                  exact OpR.op' rfl (Yl.sameI (yl_assign rfl hx899 ⟨fun _ _ => rfl, rfl⟩))
                · intro fl903 fh904 L900 w901 hp902
                  have hE905 := hp902.ex
                  have hE905z := Ex.size hE905
                  have hx906 := hp902.old 0 _ rfl rfl
                  have hx907 := hp902.old 1 _ rfl rfl
                  have hx908 := hp902.old 5 _ rfl rfl
                  have hx909 := hp902.old 7 _ rfl rfl
                  have hx910 := hp902.old 19 _ rfl rfl
                  have hx911 := hp902.old 20 _ rfl rfl
                  have hx912 := hp902.old 21 _ rfl rfl
                  have hx913 := hp902.old 22 _ rfl rfl
                  have hx914 := hp902.old 25 _ rfl rfl
                  have hx915 := hp902.old 26 _ rfl rfl
                  have hx916 := hp902.old 27 _ rfl rfl
                  have hx917 := hp902.old 28 _ rfl rfl
                  have hx918 := hp902.old 29 _ rfl rfl
                  have hx919 := hp902.old 30 _ rfl rfl
                  have hx920 := hp902.old 31 _ rfl rfl
                  have hx921 := hp902.old 32 _ rfl rfl
                  have hx922 := hp902.old 33 _ rfl rfl
                  have hx923 := hp902.old 34 _ rfl rfl
                  obtain ⟨_, hx924, rfl⟩ := hp902.new 2 44 rfl rfl
                  obtain ⟨_, hx925, rfl⟩ := hp902.new 3 45 rfl rfl
                  obtain ⟨_, hx926, rfl⟩ := hp902.new 4 46 rfl rfl
                  obtain ⟨_, hx927, rfl⟩ := hp902.new 5 47 rfl rfl
                  obtain ⟨_, hx928, rfl⟩ := hp902.new 6 48 rfl rfl
                  obtain ⟨_, hx929, rfl⟩ := hp902.new 7 49 rfl rfl
                  obtain ⟨_, hx930, rfl⟩ := hp902.new 8 50 rfl rfl
                  obtain ⟨_, hx931, rfl⟩ := hp902.new 10 6 rfl rfl
                  refine SeqR.done ?_
                  refine bn ?_
                  refine tn ?_
                  refine CW.sub (Sub.cons (d := 0) hx906 (Sub.cons (d := 1) hx907 (Sub.cons (d := 5) hx908 (Sub.cons (d := 6) hx931 (Sub.cons (d := 7) hx909 (Sub.cons (d := 19) hx910 (Sub.cons (d := 20) hx911 (Sub.cons (d := 21) hx912 (Sub.cons (d := 22) hx913 (Sub.cons (d := 25) hx914 (Sub.cons (d := 26) hx915 (Sub.cons (d := 27) hx916 (Sub.cons (d := 28) hx917 (Sub.cons (d := 29) hx918 (Sub.cons (d := 30) hx919 (Sub.cons (d := 31) hx920 (Sub.cons (d := 32) hx921 (Sub.cons (d := 33) hx922 (Sub.cons (d := 34) hx923 (Sub.cons (d := 44) hx924 (Sub.cons (d := 45) hx925 (Sub.cons (d := 46) hx926 (Sub.cons (d := 47) hx927 (Sub.cons (d := 48) hx928 (Sub.cons (d := 49) hx929 (Sub.cons (d := 50) hx930 (Sub.nil _))))))))))))))))))))))))))) ?_
                  refine CW.region ?_
                  refine SeqR.d1 rfl rfl rfl (yl_move rfl rfl ?_)
                  refine SeqR.d1 rfl rfl rfl (yl_inc rfl rfl rfl (by omega) ?_)
                  refine SeqR.d1 rfl rfl rfl (yl_assign rfl rfl ?_)
                  refine SeqR.done ?_
                  refine tn ?_
                  have hB932 : B_s_l3Bytes_1 p_s p_more k5 k711 (x712) = .cont (decide (((p_s.getD k5 0).toNat : Int) = ((p_more.getD k711 0).toNat : Int))) := by simp only [B_s_l3Bytes_1, hb20, hb710, hb743, cond_true, cond_false, loopE_done, loopE_ret]
                  have q933 := Ex.trans hf740 hE905
                  exact ⟨p_more.length - (k711 + 1), by omega, k711 + 1, decide (((p_s.getD k5 0).toNat : Int) = ((p_more.getD k711 0).toNat : Int)), rfl, hlt742, rfl, rfl, rfl, rfl, rfl, rfl, rfl, rfl, rfl, rfl, rfl, rfl, rfl, rfl, rfl, rfl, rfl, rfl, rfl, q933, (loopM.cont hlt742 hB932).symm.trans hI720⟩
            · skip
              refine CW.seq ?_
              refine CW.seq ?_
              refine CW.region ?_
              refine SeqR.d1 rfl rfl rfl (yl_move rfl rfl ?_)
              refine SeqR.d1 rfl rfl rfl (yl_move rfl rfl ?_)
              refine SeqR.d1 rfl rfl rfl (yl_slen Try.un9 (a := p_more) rfl rfl ?_)
              refine SeqR.d1 rfl rfl rfl (yl_lss rfl rfl rfl ?_)
              refine SeqR.done ?_
              refine tn ?_
              refine CW.cond_f rfl (lt_f hlt742) ?_
              refine CW.exit ?_
              refine tx ?_
              refine tx ?_
              have hL934 : loopM (B_s_l3Bytes_1 p_s p_more k5) (p_more.length - 0) 0 (decide (((p_s.getD k5 0).toNat : Int) ≤ 57)) = .done (x712) := hI720.symm.trans (loopM.stop hlt742)
              refine bx ?_
              refine tn ?_
              refine CW.seq ?_
              refine CW.region ?_
              refine SeqR.d1 rfl rfl rfl (yl_move rfl rfl ?_)
              refine SeqR.d1 rfl rfl rfl (yl_not rfl rfl ?_)
              refine SeqR.done ?_
              refine tn ?_
              refine bcase (x712) (fun hb935 => ?_) (fun hb935 => ?_)
              · skip
                refine CW.cond_f rfl (not_t hb935) ?_
                refine CW.skip ?_
                refine bn ?_
                refine tn ?_
                refine CW.region ?_
                refine SeqR.d1 rfl rfl rfl (yl_move rfl rfl ?_)
                refine SeqR.d1 rfl rfl rfl (yl_inc rfl rfl rfl (by omega) ?_)
                refine SeqR.d1 rfl rfl rfl (yl_assign rfl rfl ?_)
                refine SeqR.done ?_
                refine tn ?_
                have hB936 : B_s_l3Bytes_0 p_s p_more k5 () = .cont () := by simp only [B_s_l3Bytes_0, hb20, hb710, hb935, hL934, cond_true, cond_false, loopE_done, loopE_ret]
                exact ⟨p_s.length - (k5 + 1), by omega, k5 + 1, rfl, hlt19, rfl, rfl, rfl, hf740, (loopM.cont hlt19 hB936).symm.trans hI13⟩
              · skip
                refine CW.cond_t rfl (not_f hb935) ?_
                refine CW.seq ?_
                refine CW.region ?_
                refine SeqR.d1 rfl rfl rfl (yl_assign rfl rfl ?_)
                refine SeqR.done ?_
                refine tn ?_
                refine CW.ret ?_
                refine br ?_
                refine tr ?_
                refine tr ?_
                have hB938 : B_s_l3Bytes_0 p_s p_more k5 () = .ret false := by simp only [B_s_l3Bytes_0, hb20, hb710, hb935, hL934, cond_true, cond_false, loopE_done, loopE_ret]
                have hL937 : loopM (B_s_l3Bytes_0 p_s p_more) (p_s.length - 0) 0 () = .ret false := hI13.symm.trans (loopM.ret hlt19 hB938)
                refine br ?_
                refine tr ?_
                refine rr rfl (.cons rfl .nil) ?_
                have hM939 : (s_l3Bytes p_s p_more) = (false) := by simp only [s_l3Bytes, hb20, hb710, hb935, hL934, hL937, cond_true, cond_false, loopE_done, loopE_ret]
                rw [hM939]
                exact ⟨rfl, hf740⟩
        · have hb710p := dec_f hb710
          refine SeqR.z rfl rfl rfl rfl rfl hb710 ?_
          refine SeqR.z rfl rfl rfl rfl rfl hb710 ?_
          refine SeqR.z rfl rfl rfl rfl rfl hb710 ?_
          refine SeqR.z rfl rfl rfl rfl rfl hb710 ?_
          refine SeqR.y rfl rfl rfl rfl rfl rfl (yl_pick_f rfl rfl hb710 rfl ?_)
          refine SeqR.d1 rfl rfl rfl (yl_pick_f rfl rfl rfl rfl ?_)
          refine SeqR.d1 rfl rfl rfl (yl_assign rfl rfl ?_)
          refine SeqR.done ?_
          refine tn ?_
          refine CW.seq ?_
          refine CW.seq ?_
          refine CW.region ?_
          refine SeqR.d1 rfl rfl rfl (yl_assign rfl rfl ?_)
          refine SeqR.done ?_
          refine tn ?_
          refine CW.block ?_
          refine CW.loop (fun m942 L943 w944 => ∃ (k940 : Nat) (x941 : Bool), m942 = p_more.length - k940 ∧ k940 ≤ p_more.length ∧ lkp L943 0 = some (.string (bs (p_s))) ∧ lkp L943 1 = some (.string (bs (p_more))) ∧ lkp L943 5 = some (.int .i64 ((k5 : Int))) ∧ lkp L943 6 = some (.bool (x941)) ∧ lkp L943 7 = some (.int .i64 ((k940 : Int))) ∧ lkp L943 19 = some (undef) ∧ lkp L943 20 = some (undef) ∧ lkp L943 21 = some (undef) ∧ lkp L943 22 = some (undef) ∧ lkp L943 25 = some (.string (bs (p_s))) ∧ lkp L943 26 = some (.int .i64 ((k5 : Int))) ∧ lkp L943 27 = some (.int .u8 (((p_s.getD k5 0).toNat : Int))) ∧ lkp L943 28 = some (.bool (decide (48 ≤ ((p_s.getD k5 0).toNat : Int)))) ∧ lkp L943 29 = some (.bool (decide (48 ≤ ((p_s.getD k5 0).toNat : Int)))) ∧ lkp L943 30 = some (undef) ∧ lkp L943 31 = some (undef) ∧ lkp L943 32 = some (undef) ∧ lkp L943 33 = some (undef) ∧ lkp L943 34 = some (.bool (false)) ∧ Ex w w944 ∧ loopM (B_s_l3Bytes_1 p_s p_more k5) (p_more.length - k940) k940 (x941) = loopM (B_s_l3Bytes_1 p_s p_more k5) (p_more.length - 0) 0 (false)) (p_more.length - 0) ?_ ?_
          · exact ⟨0, false, rfl, Nat.zero_le _, rfl, rfl, rfl, rfl, rfl, rfl, rfl, rfl, rfl, rfl, rfl, rfl, rfl, rfl, rfl, rfl, rfl, rfl, rfl, hf17, rfl⟩
          · rintro m945 L946 w947 ⟨k940, x941, rfl, hk948, hl950, hl951, hl952, hl953, hl954, hl955, hl956, hl957, hl958, hl959, hl960, hl961, hl962, hl963, hl964, hl965, hl966, hl967, hl968, hf969, hI949⟩
            refine CW.sub (Sub.cons hl950 (Sub.cons hl951 (Sub.cons hl952 (Sub.cons hl953 (Sub.cons hl954 (Sub.cons hl955 (Sub.cons hl956 (Sub.cons hl957 (Sub.cons hl958 (Sub.cons hl959 (Sub.cons hl960 (Sub.cons hl961 (Sub.cons hl962 (Sub.cons hl963 (Sub.cons hl964 (Sub.cons hl965 (Sub.cons hl966 (Sub.cons hl967 (Sub.cons hl968 (Sub.nil _)))))))))))))))))))) ?_
            have hf969z := Ex.size hf969
            have hbg970 : p_more.length ≤ 1073741824 := o2
            rcases Nat.lt_or_ge k940 p_more.length with hlt971 | hlt971
            · skip
              refine CW.seq ?_
              refine CW.seq ?_
              refine CW.region ?_
              refine SeqR.d1 rfl rfl rfl (yl_move rfl rfl ?_)
              refine SeqR.d1 rfl rfl rfl (yl_move rfl rfl ?_)
              refine SeqR.d1 rfl rfl rfl (yl_slen Try.un9 (a := p_more) rfl rfl ?_)
              refine SeqR.d1 rfl rfl rfl (yl_lss rfl rfl rfl ?_)
              refine SeqR.done ?_
              refine tn ?_
              refine CW.cond_t rfl (lt_t hlt971) ?_
              refine CW.skip ?_
              refine tn ?_
              refine CW.seq ?_
              refine CW.block ?_
              refine bcase (x941) (fun hb972 => ?_) (fun hb972 => ?_)
              · skip
                refine CW.drawsI 11 (vgetI [DetI (.bool (x941)), DetI (.bool (x941)), DetI (undef), DetI (undef), DetI (undef), DetI (undef), DetI (undef), DetI (undef), DetI (undef), DetI (.bool (true)), DetI (.bool (true))]) Try.follows rfl rfl rfl rfl rfl rfl (vgetI_stable ⟨StableI.det _, StableI.det _, StableI.det _, StableI.det _, StableI.det _, StableI.det _, StableI.det _, StableI.det _, StableI.det _, StableI.det _, StableI.det _, trivial⟩) ⟨?_, ?_, ?_, ?_, ?_, ?_, ?_, ?_, ?_, ?_, ?_, trivial⟩ ?_
                · intro L973 w974 hi975
                  have hE976 := hi975.ex
                  have hE976z := Ex.size hE976
                  have hx977 := hi975.old 6 _ rfl rfl
                  exact OpR.op' rfl (Yl.sameI (yl_move rfl hx977 ⟨fun _ _ => rfl, rfl⟩))
                · intro L978 w979 hi980
                  have hE981 := hi980.ex
                  have hE981z := Ex.size hE981
                  obtain ⟨_, _, _, hx982, -, -, -, rfl⟩ := hi980.dep 0 42 rfl rfl
                  exact OpR.op' rfl (Yl.sameI (yl_move rfl hx982 ⟨fun _ _ => rfl, rfl⟩))
                · intro L983 w984 hi985
                  have hE986 := hi985.ex
                  have hE986z := Ex.size hE986
                  obtain ⟨_, _, _, hx987, -, -, -, rfl⟩ := hi985.dep 1 43 rfl rfl
                  exact OpR.skip rfl rfl hx987 hb972 ⟨rfl, Ex.refl _⟩
                · intro L988 w989 hi990
                  have hE991 := hi990.ex
                  have hE991z := Ex.size hE991
                  obtain ⟨_, _, _, hx992, -, -, -, rfl⟩ := hi990.dep 1 43 rfl rfl
                  exact OpR.skip rfl rfl hx992 hb972 ⟨rfl, Ex.refl _⟩
                · intro L993 w994 hi995
                  have hE996 := hi995.ex
                  have hE996z := Ex.size hE996
                  obtain ⟨_, _, _, hx997, -, -, -, rfl⟩ := hi995.dep 1 43 rfl rfl
                  exact OpR.skip rfl rfl hx997 hb972 ⟨rfl, Ex.refl _⟩
                · intro L998 w999 hi1000
                  have hE1001 := hi1000.ex
                  have hE1001z := Ex.size hE1001
                  obtain ⟨_, _, _, hx1002, -, -, -, rfl⟩ := hi1000.dep 1 43 rfl rfl
                  exact OpR.skip rfl rfl hx1002 hb972 ⟨rfl, Ex.refl _⟩
                · intro L1003 w1004 hi1005
                  have hE1006 := hi1005.ex
                  have hE1006z := Ex.size hE1006
                  obtain ⟨_, _, _, hx1007, -, -, -, rfl⟩ := hi1005.dep 1 43 rfl rfl
                  exact OpR.skip rfl rfl hx1007 hb972 ⟨rfl, Ex.refl _⟩
                · intro L1008 w1009 hi1010
                  have hE1011 := hi1010.ex
                  have hE1011z := Ex.size hE1011
                  obtain ⟨_, _, _, hx1012, -, -, -, rfl⟩ := hi1010.dep 1 43 rfl rfl
                  exact OpR.skip rfl rfl hx1012 hb972 ⟨rfl, Ex.refl _⟩
                · intro L1013 w1014 hi1015
                  have hE1016 := hi1015.ex
                  have hE1016z := Ex.size hE1016
                  obtain ⟨_, _, _, hx1017, -, -, -, rfl⟩ := hi1015.dep 1 43 rfl rfl
                  exact OpR.skip rfl rfl hx1017 hb972 ⟨rfl, Ex.refl _⟩
                · intro L1018 w1019 hi1020
                  have hE1021 := hi1020.ex
                  have hE1021z := Ex.size hE1021
                  obtain ⟨_, _, _, hx1022, -, -, -, rfl⟩ := hi1020.dep 8 50 rfl rfl
                  obtain ⟨_, _, _, hx1023, -, -, -, rfl⟩ := hi1020.dep 1 43 rfl rfl
                  exact OpR.op' rfl (Yl.sameI (yl_pick_t rfl hx1023 hb972 rfl ⟨fun _ _ => rfl, rfl⟩))
                · intro L1024 w1025 hi1026
                  have hE1027 := hi1026.ex
                  have hE1027z := Ex.size hE1027
                  obtain ⟨_, _, _, hx1028, -, -, -, rfl⟩ := hi1026.dep 9 51 rfl rfl
                  exact OpR.op' rfl (Yl.sameI (yl_assign rfl hx1028 ⟨fun _ _ => rfl, rfl⟩))
                · intro fl1032 fh1033 L1029 w1030 hp1031
                  have hE1034 := hp1031.ex
                  have hE1034z := Ex.size hE1034
                  have hx1035 := hp1031.old 0 _ rfl rfl
                  have hx1036 := hp1031.old 1 _ rfl rfl
                  have hx1037 := hp1031.old 5 _ rfl rfl
                  have hx1038 := hp1031.old 7 _ rfl rfl
                  have hx1039 := hp1031.old 19 _ rfl rfl
                  have hx1040 := hp1031.old 20 _ rfl rfl
                  have hx1041 := hp1031.old 21 _ rfl rfl
                  have hx1042 := hp1031.old 22 _ rfl rfl
                  have hx1043 := hp1031.old 25 _ rfl rfl
                  have hx1044 := hp1031.old 26 _ rfl rfl
                  have hx1045 := hp1031.old 27 _ rfl rfl
                  have hx1046 := hp1031.old 28 _ rfl rfl
                  have hx1047 := hp1031.old 29 _ rfl rfl
                  have hx1048 := hp1031.old 30 _ rfl rfl
                  have hx1049 := hp1031.old 31 _ rfl rfl
                  have hx1050 := hp1031.old 32 _ rfl rfl
                  have hx1051 := hp1031.old 33 _ rfl rfl
                  have hx1052 := hp1031.old 34 _ rfl rfl
                  obtain ⟨_, hx1053, rfl⟩ := hp1031.new 2 44 rfl rfl
                  obtain ⟨_, hx1054, rfl⟩ := hp1031.new 3 45 rfl rfl
                  obtain ⟨_, hx1055, rfl⟩ := hp1031.new 4 46 rfl rfl
                  obtain ⟨_, hx1056, rfl⟩ := hp1031.new 5 47 rfl rfl
                  obtain ⟨_, hx1057, rfl⟩ := hp1031.new 6 48 rfl rfl
                  obtain ⟨_, hx1058, rfl⟩ := hp1031.new 7 49 rfl rfl
                  obtain ⟨_, hx1059, rfl⟩ := hp1031.new 8 50 rfl rfl
                  obtain ⟨_, hx1060, rfl⟩ := hp1031.new 10 6 rfl rfl
                  refine SeqR.done ?_
                  refine bn ?_
                  refine tn ?_
                  refine CW.sub (Sub.cons (d := 0) hx1035 (Sub.cons (d := 1) hx1036 (Sub.cons (d := 5) hx1037 (Sub.cons (d := 6) hx1060 (Sub.cons (d := 7) hx1038 (Sub.cons (d := 19) hx1039 (Sub.cons (d := 20) hx1040 (Sub.cons (d := 21) hx1041 (Sub.cons (d := 22) hx1042 (Sub.cons (d := 25) hx1043 (Sub.cons (d := 26) hx1044 (Sub.cons (d := 27) hx1045 (Sub.cons (d := 28) hx1046 (Sub.cons (d := 29) hx1047 (Sub.cons (d := 30) hx1048 (Sub.cons (d := 31) hx1049 (Sub.cons (d := 32) hx1050 (Sub.cons (d := 33) hx1051 (Sub.cons (d := 34) hx1052 (Sub.cons (d := 44) hx1053 (Sub.cons (d := 45) hx1054 (Sub.cons (d := 46) hx1055 (Sub.cons (d := 47) hx1056 (Sub.cons (d := 48) hx1057 (Sub.cons (d := 49) hx1058 (Sub.cons (d := 50) hx1059 (Sub.nil _))))))))))))))))))))))))))) ?_
                  refine CW.region ?_
                  refine SeqR.d1 rfl rfl rfl (yl_move rfl rfl ?_)
                  refine SeqR.d1 rfl rfl rfl (yl_inc rfl rfl rfl (by omega) ?_)
                  refine SeqR.d1 rfl rfl rfl (yl_assign rfl rfl ?_)
                  refine SeqR.done ?_
                  refine tn ?_
                  have hB1061 : B_s_l3Bytes_1 p_s p_more k5 k940 (x941) = .cont (true) := by simp only [B_s_l3Bytes_1, hb20, hb710, hb972, cond_true, cond_false, loopE_done, loopE_ret]
                  have q1062 := Ex.trans hf969 hE1034
                  exact ⟨p_more.length - (k940 + 1), by omega, k940 + 1, true, rfl, hlt971, rfl, rfl, rfl, rfl, rfl, rfl, rfl, rfl, rfl, rfl, rfl, rfl, rfl, rfl, rfl, rfl, rfl, rfl, rfl, q1062, (loopM.cont hlt971 hB1061).symm.trans hI949⟩
              · skip
                refine CW.drawsI 11 (vgetI [DetI (.bool (x941)), DetI (.bool (x941)), DetI (.string (bs (p_s))), DetI (.int .i64 ((k5 : Int))), DetI (.int .u8 (((p_s.getD k5 0).toNat : Int))), DetI (.string (bs (p_more))), DetI (.int .i64 ((k940 : Int))), DetI (.int .u8 (((p_more.getD k940 0).toNat : Int))), DetI (.bool (decide (((p_s.getD k5 0).toNat : Int) = ((p_more.getD k940 0).toNat : Int)))), DetI (.bool (decide (((p_s.getD k5 0).toNat : Int) = ((p_more.getD k940 0).toNat : Int)))), DetI (.bool (decide (((p_s.getD k5 0).toNat : Int) = ((p_more.getD k940 0).toNat : Int))))]) Try.follows rfl rfl rfl rfl rfl rfl (vgetI_stable ⟨StableI.det _, StableI.det _, StableI.det _, StableI.det _, StableI.det _, StableI.det _, StableI.det _, StableI.det _, StableI.det _, StableI.det _, StableI.det _, trivial⟩) ⟨?_, ?_, ?_, ?_, ?_, ?_, ?_, ?_, ?_, ?_, ?_, trivial⟩ ?_
                · intro L1063 w1064 hi1065
                  have hE1066 := hi1065.ex
                  have hE1066z := Ex.size hE1066
                  have hx1067 := hi1065.old 6 _ rfl rfl
                  exact OpR.op' rfl (Yl.sameI (yl_move rfl hx1067 ⟨fun _ _ => rfl, rfl⟩))
                · intro L1068 w1069 hi1070
                  have hE1071 := hi1070.ex
                  have hE1071z := Ex.size hE1071
                  obtain ⟨_, _, _, hx1072, -, -, -, rfl⟩ := hi1070.dep 0 42 rfl rfl
                  exact OpR.op' rfl (Yl.sameI (yl_move rfl hx1072 ⟨fun _ _ => rfl, rfl⟩))
                · intro L1073 w1074 hi1075
                  have hE1076 := hi1075.ex
                  have hE1076z := Ex.size hE1076
                  obtain ⟨_, _, _, hx1077, -, -, -, rfl⟩ := hi1075.dep 1 43 rfl rfl
                  have hx1078 := hi1075.old 0 _ rfl rfl
                  exact OpR.want rfl rfl hx1077 hb972 (Yl.sameI (yl_move rfl hx1078 ⟨fun _ _ => rfl, rfl⟩))
                · intro L1079 w1080 hi1081
                  have hE1082 := hi1081.ex
                  have hE1082z := Ex.size hE1082
                  obtain ⟨_, _, _, hx1083, -, -, -, rfl⟩ := hi1081.dep 1 43 rfl rfl
                  have hx1084 := hi1081.old 5 _ rfl rfl
                  exact OpR.want rfl rfl hx1083 hb972 (Yl.sameI (yl_move rfl hx1084 ⟨fun _ _ => rfl, rfl⟩))
                · intro L1085 w1086 hi1087
                  have hE1088 := hi1087.ex
                  have hE1088z := Ex.size hE1088
                  obtain ⟨_, _, _, hx1089, -, -, -, rfl⟩ := hi1087.dep 1 43 rfl rfl
                  obtain ⟨_, _, _, hx1090, -, -, -, rfl⟩ := hi1087.dep 2 44 rfl rfl
                  obtain ⟨_, _, _, hx1091, -, -, -, rfl⟩ := hi1087.dep 3 45 rfl rfl
                  exact OpR.want rfl rfl hx1089 hb972 (Yl.sameI (yl_sindexN Try.un9 (a := p_s) rfl hx1090 hx1091 (by first | omega | assumption | (simp only [IntKind.wrap_i64] at *; omega)) ⟨fun _ _ => rfl, rfl⟩))
                · intro L1092 w1093 hi1094
                  have hE1095 := hi1094.ex
                  have hE1095z := Ex.size hE1095
                  obtain ⟨_, _, _, hx1096, -, -, -, rfl⟩ := hi1094.dep 1 43 rfl rfl
                  have hx1097 := hi1094.old 1 _ rfl rfl
                  exact OpR.want rfl rfl hx1096 hb972 (Yl.sameI (yl_move rfl hx1097 ⟨fun _ _ => rfl, rfl⟩))
                · intro L1098 w1099 hi1100
                  have hE1101 := hi1100.ex
                  have hE1101z := Ex.size hE1101
                  obtain ⟨_, _, _, hx1102, -, -, -, rfl⟩ := hi1100.dep 1 43 rfl rfl
                  have hx1103 := hi1100.old 7 _ rfl rfl
                  exact OpR.want rfl rfl hx1102 hb972 (Yl.sameI (yl_move rfl hx1103 ⟨fun _ _ => rfl, rfl⟩))
                · intro L1104 w1105 hi1106
                  have hE1107 := hi1106.ex
                  have hE1107z := Ex.size hE1107
                  obtain ⟨_, _, _, hx1108, -, -, -, rfl⟩ := hi1106.dep 1 43 rfl rfl
                  obtain ⟨_, _, _, hx1109, -, -, -, rfl⟩ := hi1106.dep 5 47 rfl rfl
                  obtain ⟨_, _, _, hx1110, -, -, -, rfl⟩ := hi1106.dep 6 48 rfl rfl
                  exact OpR.want rfl rfl hx1108 hb972 (Yl.sameI (yl_sindexN Try.un9 (a := p_more) rfl hx1109 hx1110 (by first | omega | assumption | (simp only [IntKind.wrap_i64] at *; omega)) ⟨fun _ _ => rfl, rfl⟩))
                · intro L1111 w1112 hi1113
                  have hE1114 := hi1113.ex
                  have hE1114z := Ex.size hE1114
                  obtain ⟨_, _, _, hx1115, -, -, -, rfl⟩ := hi1113.dep 1 43 rfl rfl
                  obtain ⟨_, _, _, hx1116, -, -, -, rfl⟩ := hi1113.dep 4 46 rfl rfl
                  obtain ⟨_, _, _, hx1117, -, -, -, rfl⟩ := hi1113.dep 7 49 rfl rfl
                  exact OpR.want rfl rfl hx1115 hb972 (Yl.sameI (yl_eql rfl hx1116 hx1117 ⟨fun _ _ => rfl, rfl⟩))
                · intro L1118 w1119 hi1120
                  have hE1121 := hi1120.ex
                  have hE1121z := Ex.size hE1121
                  obtain ⟨_, _, _, hx1122, -, -, -, rfl⟩ := hi1120.dep 8 50 rfl rfl
                  obtain ⟨_, _, _, hx1123, -, -, -, rfl⟩ := hi1120.dep 1 43 rfl rfl
                  exact OpR.op' rfl (Yl.sameI (yl_pick_f rfl hx1123 hb972 hx1122 ⟨fun _ _ => rfl, rfl⟩))
                · intro L1124 w1125 hi1126
                  have hE1127 := hi1126.ex
                  have hE1127z := Ex.size hE1127
                  obtain ⟨_, _, _, hx1128, -, -, -, rfl⟩ := hi1126.dep 9 51 rfl rfl
                  exact OpR.op' rfl (Yl.sameI (yl_assign rfl hx1128 ⟨fun _ _ => rfl, rfl⟩))
                · intro fl1132 fh1133 L1129 w1130 hp1131
                  have hE1134 := hp1131.ex
                  have hE1134z := Ex.size hE1134
                  have hx1135 := hp1131.old 0 _ rfl rfl
                  have hx1136 := hp1131.old 1 _ rfl rfl
                  have hx1137 := hp1131.old 5 _ rfl rfl
                  have hx1138 := hp1131.old 7 _ rfl rfl
                  have hx1139 := hp1131.old 19 _ rfl rfl
                  have hx1140 := hp1131.old 20 _ rfl rfl
                  have hx1141 := hp1131.old 21 _ rfl rfl
                  have hx1142 := hp1131.old 22 _ rfl rfl
                  have hx1143 := hp1131.old 25 _ rfl rfl
                  have hx1144 := hp1131.old 26 _ rfl rfl
                  have hx1145 := hp1131.old 27 _ rfl rfl
                  have hx1146 := hp1131.old 28 _ rfl rfl
                  have hx1147 := hp1131.old 29 _ rfl rfl
                  have hx1148 := hp1131.old 30 _ rfl rfl
                  have hx1149 := hp1131.old 31 _ rfl rfl
                  have hx1150 := hp1131.old 32 _ rfl rfl
                  have hx1151 := hp1131.old 33 _ rfl rfl
                  have hx1152 := hp1131.old 34 _ rfl rfl
                  obtain ⟨_, hx1153, rfl⟩ := hp1131.new 2 44 rfl rfl
                  obtain ⟨_, hx1154, rfl⟩ := hp1131.new 3 45 rfl rfl
                  obtain ⟨_, hx1155, rfl⟩ := hp1131.new 4 46 rfl rfl
                  obtain ⟨_, hx1156, rfl⟩ := hp1131.new 5 47 rfl rfl
                  obtain ⟨_, hx1157, rfl⟩ := hp1131.new 6 48 rfl rfl
                  obtain ⟨_, hx1158, rfl⟩ := hp1131.new 7 49 rfl rfl
                  obtain ⟨_, hx1159, rfl⟩ := hp1131.new 8 50 rfl rfl
                  obtain ⟨_, hx1160, rfl⟩ := hp1131.new 10 6 rfl rfl
                  refine SeqR.done ?_
                  refine bn ?_
                  refine tn ?_
                  refine CW.sub (Sub.cons (d := 0) hx1135 (Sub.cons (d := 1) hx1136 (Sub.cons (d := 5) hx1137 (Sub.cons (d := 6) hx1160 (Sub.cons (d := 7) hx1138 (Sub.cons (d := 19) hx1139 (Sub.cons (d := 20) hx1140 (Sub.cons (d := 21) hx1141 (Sub.cons (d := 22) hx1142 (Sub.cons (d := 25) hx1143 (Sub.cons (d := 26) hx1144 (Sub.cons (d := 27) hx1145 (Sub.cons (d := 28) hx1146 (Sub.cons (d := 29) hx1147 (Sub.cons (d := 30) hx1148 (Sub.cons (d := 31) hx1149 (Sub.cons (d := 32) hx1150 (Sub.cons (d := 33) hx1151 (Sub.cons (d := 34) hx1152 (Sub.cons (d := 44) hx1153 (Sub.cons (d := 45) hx1154 (Sub.cons (d := 46) hx1155 (Sub.cons (d := 47) hx1156 (Sub.cons (d := 48) hx1157 (Sub.cons (d := 49) hx1158 (Sub.cons (d := 50) hx1159 (Sub.nil _))))))))))))))))))))))))))) ?_
                  refine CW.region ?_
                  refine SeqR.d1 rfl rfl rfl (yl_move rfl rfl ?_)
                  refine SeqR.d1 rfl rfl rfl (yl_inc rfl rfl rfl (by omega) ?_)
                  refine SeqR.d1 rfl rfl rfl (yl_assign rfl rfl ?_)
                  refine SeqR.done ?_
                  refine tn ?_
                  have hB1161 : B_s_l3Bytes_1 p_s p_more k5 k940 (x941) = .cont (decide (((p_s.getD k5 0).toNat : Int) = ((p_more.getD k940 0).toNat : Int))) := by simp only [B_s_l3Bytes_1, hb20, hb710, hb972, cond_true, cond_false, loopE_done, loopE_ret]
                  have q1162 := Ex.trans hf969 hE1134
                  exact ⟨p_more.length - (k940 + 1), by omega, k940 + 1, decide (((p_s.getD k5 0).toNat : Int) = ((p_more.getD k940 0).toNat : Int)), rfl, hlt971, rfl, rfl, rfl, rfl, rfl, rfl, rfl, rfl, rfl, rfl, rfl, rfl, rfl, rfl, rfl, rfl, rfl, rfl, rfl, q1162, (loopM.cont hlt971 hB1161).symm.trans hI949⟩
            · skip
              refine CW.seq ?_
              refine CW.seq ?_
              refine CW.region ?_
              refine SeqR.d1 rfl rfl rfl (yl_move rfl rfl ?_)
              refine SeqR.d1 rfl rfl rfl (yl_move rfl rfl ?_)
              refine SeqR.d1 rfl rfl rfl (yl_slen Try.un9 (a := p_more) rfl rfl ?_)
              refine SeqR.d1 rfl rfl rfl (yl_lss rfl rfl rfl ?_)
              refine SeqR.done ?_
              refine tn ?_
              refine CW.cond_f rfl (lt_f hlt971) ?_
              refine CW.exit ?_
              refine tx ?_
              refine tx ?_
              have hL1163 : loopM (B_s_l3Bytes_1 p_s p_more k5) (p_more.length - 0) 0 (false) = .done (x941) := hI949.symm.trans (loopM.stop hlt971)
              refine bx ?_
              refine tn ?_
              refine CW.seq ?_
              refine CW.region ?_
              refine SeqR.d1 rfl rfl rfl (yl_move rfl rfl ?_)
              refine SeqR.d1 rfl rfl rfl (yl_not rfl rfl ?_)
              refine SeqR.done ?_
              refine tn ?_
              refine bcase (x941) (fun hb1164 => ?_) (fun hb1164 => ?_)
              · skip
                refine CW.cond_f rfl (not_t hb1164) ?_
                refine CW.skip ?_
                refine bn ?_
                refine tn ?_
                refine CW.region ?_
                refine SeqR.d1 rfl rfl rfl (yl_move rfl rfl ?_)
                refine SeqR.d1 rfl rfl rfl (yl_inc rfl rfl rfl (by omega) ?_)
                refine SeqR.d1 rfl rfl rfl (yl_assign rfl rfl ?_)
                refine SeqR.done ?_
                refine tn ?_
                have hB1165 : B_s_l3Bytes_0 p_s p_more k5 () = .cont () := by simp only [B_s_l3Bytes_0, hb20, hb710, hb1164, hL1163, cond_true, cond_false, loopE_done, loopE_ret]
                exact ⟨p_s.length - (k5 + 1), by omega, k5 + 1, rfl, hlt19, rfl, rfl, rfl, hf969, (loopM.cont hlt19 hB1165).symm.trans hI13⟩
              · skip
                refine CW.cond_t rfl (not_f hb1164) ?_
                refine CW.seq ?_
                refine CW.region ?_
                refine SeqR.d1 rfl rfl rfl (yl_assign rfl rfl ?_)
                refine SeqR.done ?_
                refine tn ?_
                refine CW.ret ?_
                refine br ?_
                refine tr ?_
                refine tr ?_
                have hB1167 : B_s_l3Bytes_0 p_s p_more k5 () = .ret false := by simp only [B_s_l3Bytes_0, hb20, hb710, hb1164, hL1163, cond_true, cond_false, loopE_done, loopE_ret]
                have hL1166 : loopM (B_s_l3Bytes_0 p_s p_more) (p_s.length - 0) 0 () = .ret false := hI13.symm.trans (loopM.ret hlt19 hB1167)
                refine br ?_
                refine tr ?_
                refine rr rfl (.cons rfl .nil) ?_
                have hM1168 : (s_l3Bytes p_s p_more) = (false) := by simp only [s_l3Bytes, hb20, hb710, hb1164, hL1163, hL1166, cond_true, cond_false, loopE_done, loopE_ret]
                rw [hM1168]
                exact ⟨rfl, hf969⟩
    · skip
      refine CW.seq ?_
      refine CW.seq ?_
      refine CW.region ?_
      refine SeqR.d1 rfl rfl rfl (yl_move rfl rfl ?_)
      refine SeqR.d1 rfl rfl rfl (yl_move rfl rfl ?_)
      refine SeqR.d1 rfl rfl rfl (yl_slen Try.un9 (a := p_s) rfl rfl ?_)
      refine SeqR.d1 rfl rfl rfl (yl_lss rfl rfl rfl ?_)
      refine SeqR.done ?_
      refine tn ?_
      refine CW.cond_f rfl (lt_f hlt19) ?_
      refine CW.exit ?_
      refine tx ?_
      refine tx ?_
      have hL1169 : loopM (B_s_l3Bytes_0 p_s p_more) (p_s.length - 0) 0 () = .done () := hI13.symm.trans (loopM.stop hlt19)
      refine bx ?_
      refine tn ?_
      refine CW.seq ?_
      refine CW.region ?_
      refine SeqR.d1 rfl rfl rfl (yl_assign rfl rfl ?_)
      refine SeqR.done ?_
      refine tn ?_
      refine CW.ret ?_
      refine rr rfl (.cons rfl .nil) ?_
      have hM1170 : (s_l3Bytes p_s p_more) = (true) := by simp only [s_l3Bytes, hL1169, cond_true, cond_false, loopE_done, loopE_ret]
      rw [hM1170]
      exact ⟨rfl, hf17⟩
set_option maxRecDepth 100000 in
set_option maxHeartbeats 2000000 in
theorem c_s_l25Field {w : World} (p_s : Str) (o1 : okS p_s) : Cal Try.prog 118 #[.string (bs (p_s))] w fun v w' => v = .bool ((s_l25Field p_s)) ∧ Ex w w' := by
  have hol2 : p_s.length ≤ 1073741824 := o1
  refine Cal.of (vs := [.string (bs (p_s))]) Try.func118 rfl Try.ntmps118 rfl ?_
  refine CW.seq ?_
  refine CW.region ?_
  refine SeqR.d1 rfl rfl rfl (yl_assign rfl rfl ?_)
  refine SeqR.done ?_
  refine tn ?_
  refine CW.seq ?_
  refine CW.region ?_
  refine SeqR.d1 rfl rfl rfl (yl_move rfl rfl ?_)
  refine SeqR.d1 rfl rfl rfl (yl_slen Try.un9 (a := p_s) rfl rfl ?_)
  refine SeqR.d1 rfl rfl rfl (yl_call Try.en50 rfl (opvs_cons rfl (opvs_cons rfl (opvs_cons rfl opvs_nil))) (Cal.mono (c_s_l1In (p_s.length : Int) 1 3) ?_))
  rintro v4 w3 ⟨rfl, hE5⟩
  have hE5z := Ex.size hE5
  refine SeqR.d1 rfl rfl rfl (yl_move rfl rfl ?_)
  refine bcase (s_l1In (p_s.length : Int) 1 3) (fun hb6 => ?_) (fun hb6 => ?_)
  · have hb6p := f_l1In hb6
    refine SeqR.y rfl rfl rfl rfl rfl hb6 (yl_move rfl rfl ?_)
    refine SeqR.y rfl rfl rfl rfl rfl hb6 (yl_call Try.en99 rfl (opvs_cons rfl (opvs_cons rfl opvs_nil)) (Cal.mono (c_s_l3Bytes p_s ([] : Str) o1 (by unfold okS; decide)) ?_))
    rintro v8 w7 ⟨rfl, hE9⟩
    have hE9z := Ex.size hE9
    refine SeqR.d1 rfl rfl rfl (yl_pick_t rfl rfl hb6 rfl ?_)
    refine SeqR.d1 rfl rfl rfl (yl_assign rfl rfl ?_)
    refine SeqR.done ?_
    refine tn ?_
    refine CW.ret ?_
    refine rr rfl (.cons rfl .nil) ?_
    have hM10 : (s_l25Field p_s) = ((s_l3Bytes p_s ([] : Str))) := by simp only [s_l25Field, hb6, cond_true, cond_false, loopE_done, loopE_ret]
    rw [hM10]
    have q11 := Ex.trans (Ex.refl w) hE5
    have q12 := Ex.trans q11 hE9
    exact ⟨rfl, q12⟩
  · skip
    refine SeqR.z rfl rfl rfl rfl rfl hb6 ?_
    refine SeqR.z rfl rfl rfl rfl rfl hb6 ?_
    refine SeqR.d1 rfl rfl rfl (yl_pick_f rfl rfl hb6 rfl ?_)
    refine SeqR.d1 rfl rfl rfl (yl_assign rfl rfl ?_)
    refine SeqR.done ?_
    refine tn ?_
    refine CW.ret ?_
    refine rr rfl (.cons rfl .nil) ?_
    have hM13 : (s_l25Field p_s) = (false) := by simp only [s_l25Field, hb6, cond_true, cond_false, loopE_done, loopE_ret]
    rw [hM13]
    have q14 := Ex.trans (Ex.refl w) hE5
    exact ⟨rfl, q14⟩
set_option maxRecDepth 100000 in
set_option maxHeartbeats 2000000 in
theorem c_s_l25Good {A1 : Option Addr} {c1 : Nat} {A2 : Option Addr} {c2 : Nat} {A4 : Option Addr} {c4 : Nat} {w : World} (p_t : DTable) (p_r : DRow) (h1 : RdS w (Iv 0 w.heap.size) (RF e_Str) 1 A1 p_t.Cols.length c1 p_t.Cols) (h2 : RdS w (Iv 0 w.heap.size) (RF e_Idx) 3 A2 p_t.Idxs.length c2 p_t.Idxs) (h4 : RdS w (Iv 0 w.heap.size) (RF e_Str) 1 A4 p_r.Vals.length c4 p_r.Vals) (o3 : ok_Table p_t) (o5 : ok_Row p_r) : Cal Try.prog 92 #[.agg #[.string (bs (p_t.Name)), .slice A1 p_t.Cols.length c1, .slice A2 p_t.Idxs.length c2], .agg #[.slice A4 p_r.Vals.length c4]] w fun v w' => v = .bool ((s_l25Good p_t p_r)) ∧ Ex w w' := by
  have hol6 : p_t.Name.length ≤ 1073741824 := o3.1
  have hol7 := o3.2.1.1
  have hol8 := o3.2.2.1
  have hol9 := o5.1
  refine Cal.of (vs := [.agg #[.string (bs (p_t.Name)), .slice A1 p_t.Cols.length c1, .slice A2 p_t.Idxs.length c2], .agg #[.slice A4 p_r.Vals.length c4]]) Try.func92 rfl Try.ntmps92 rfl ?_
  refine CW.seq ?_
  refine CW.region ?_
  refine SeqR.d1 rfl rfl rfl (yl_box (cs := [.string (bs (p_t.Name)), .slice A1 p_t.Cols.length c1, .slice A2 p_t.Idxs.length c2]) rfl rfl rfl ?_)
  intro b10 w11 hs12 hz13 hB14 hE15
  refine SeqR.d1 rfl rfl rfl (yl_box (cs := [.slice A4 p_r.Vals.length c4]) rfl rfl rfl ?_)
  intro b16 w17 hs18 hz19 hB20 hE21
  refine SeqR.d1 rfl rfl rfl (yl_assign rfl rfl ?_)
  refine SeqR.done ?_
  refine tn ?_
  refine CW.seq ?_
  refine CW.seq ?_
  refine CW.region ?_
  refine SeqR.d1 rfl rfl rfl (yl_fieldAddr Try.fd86_0 rfl rfl ?_)
  refine SeqR.d1 rfl rfl rfl (yl_load1 Try.ty73 rfl rfl ((hB20.cell 0).trans rfl) ?_)
  refine SeqR.d1 rfl rfl rfl (yl_len Try.un73 rfl rfl ?_)
  refine SeqR.d1 rfl rfl rfl (yl_move rfl rfl ?_)
  refine SeqR.done ?_
  refine tn ?_
  refine CW.block ?_
  have q26 := Box.ex hB14 hE21
  have q27 := RdS.ex good_Str h1 hE15
  have q28 := RdS.ex good_Str q27 hE21
  have q29 := RdS.ex good_Idx h2 hE15
  have q30 := RdS.ex good_Idx q29 hE21
  have q31 := RdS.ex good_Str h4 hE15
  have q32 := RdS.ex good_Str q31 hE21
  have q33 := Ex.trans (Ex.refl w) hE15
  have q34 := Ex.trans q33 hE21
  refine CW.loop (fun m23 L24 w25 => ∃ (k22 : Nat), m23 = p_r.Vals.length - k22 ∧ k22 ≤ p_r.Vals.length ∧ lkp L24 2 = some (.pointer (some ⟨b10, 0, none⟩)) ∧ lkp L24 3 = some (.pointer (some ⟨b16, 0, none⟩)) ∧ lkp L24 8 = some (.slice A4 p_r.Vals.length c4) ∧ lkp L24 9 = some (.int .i64 ((p_r.Vals.length : Int))) ∧ lkp L24 10 = some (.int .i64 ((k22 : Int))) ∧ Box w25 b10 84 [.string (bs (p_t.Name)), .slice A1 p_t.Cols.length c1, .slice A2 p_t.Idxs.length c2] ∧ RdS w25 (Iv 0 w.heap.size) (RF e_Str) 1 A1 p_t.Cols.length c1 p_t.Cols ∧ RdS w25 (Iv 0 w.heap.size) (RF e_Idx) 3 A2 p_t.Idxs.length c2 p_t.Idxs ∧ Box w25 b16 86 [.slice A4 p_r.Vals.length c4] ∧ RdS w25 (Iv 0 w.heap.size) (RF e_Str) 1 A4 p_r.Vals.length c4 p_r.Vals ∧ Ex w w25 ∧ loopM (B_s_l25Good_0 p_t p_r) (p_r.Vals.length - k22) k22 () = loopM (B_s_l25Good_0 p_t p_r) (p_r.Vals.length - 0) 0 ()) (p_r.Vals.length - 0) ?_ ?_
  · exact ⟨0, rfl, Nat.zero_le _, rfl, rfl, rfl, rfl, rfl, q26, q28, q30, hB20, q32, q34, rfl⟩
  · rintro m35 L36 w37 ⟨k22, rfl, hk38, hl40, hl41, hl42, hl43, hl44, hf45, hf46, hf47, hf48, hf49, hf50, hI39⟩
    refine CW.sub (Sub.cons hl40 (Sub.cons hl41 (Sub.cons hl42 (Sub.cons hl43 (Sub.cons hl44 (Sub.nil _)))))) ?_
    have hf45z := Box.lt hf45
    have hf48z := Box.lt hf48
    have hf50z := Ex.size hf50
    have hbg51 := RdS.big hf49
    rcases Nat.lt_or_ge k22 p_r.Vals.length with hlt52 | hlt52
    · skip
      refine CW.seq ?_
      refine CW.region ?_
      refine SeqR.d1 rfl rfl rfl (yl_lss rfl rfl rfl ?_)
      refine SeqR.done ?_
      refine tn ?_
      refine CW.seq ?_
      refine CW.cond_t rfl (lt_t hlt52) ?_
      refine CW.skip ?_
      refine tn ?_
      refine CW.seq ?_
      refine CW.block ?_
      refine CW.seq ?_
      refine CW.region ?_
      obtain ⟨eb53, eo53, ec53, eA53, eS53, ebl53, el53, eR53, eC53⟩ := RdS.atD hf49 d_Str (i := k22) (by first | omega | assumption)
      obtain rfl := eR53
      have eC53 : Cells w37 eb53 (eo53 + k22 * 1) [.string (bs ((p_r.Vals.getD k22 d_Str)))] := eC53
      refine SeqR.d1 rfl rfl rfl (yl_indexAddrN Try.un73 Try.ty9 rfl rfl rfl eA53 (by first | omega | assumption | (simp only [IntKind.wrap_i64] at *; omega)) ?_)
      refine SeqR.d1 rfl rfl rfl (yl_load1 Try.ty9 rfl rfl (eC53 0 _ rfl) ?_)
      refine SeqR.d1 rfl rfl rfl (yl_assign rfl rfl ?_)
      refine SeqR.done ?_
      refine tn ?_
      refine CW.seq ?_
      refine CW.region ?_
      refine SeqR.d1 rfl rfl rfl (yl_move rfl rfl ?_)
      refine SeqR.d1 rfl rfl rfl (yl_call Try.en118 rfl (opvs_cons rfl opvs_nil) (Cal.mono (c_s_l25Field (p_r.Vals.getD k22 d_Str) (okL.getD o5 ok_d_Str _)) ?_))
      rintro v55 w54 ⟨rfl, hE56⟩
      have hE56z := Ex.size hE56
      refine SeqR.d1 rfl rfl rfl (yl_not rfl rfl ?_)
      refine SeqR.done ?_
      refine tn ?_
      refine bcase (s_l25Field (p_r.Vals.getD k22 d_Str)) (fun hb57 => ?_) (fun hb57 => ?_)
      · skip
        refine CW.cond_f rfl (not_t hb57) ?_
        refine CW.skip ?_
        refine bn ?_
        refine tn ?_
        refine CW.region ?_
        refine SeqR.d1 rfl rfl rfl (yl_inc rfl rfl rfl (by omega) ?_)
        refine SeqR.d1 rfl rfl rfl (yl_move rfl rfl ?_)
        refine SeqR.done ?_
        refine tn ?_
        have hB58 : B_s_l25Good_0 p_t p_r k22 () = .cont () := by simp only [B_s_l25Good_0, hb57, cond_true, cond_false, loopE_done, loopE_ret]
        have q59 := Box.ex hf45 hE56
        have q60 := RdS.ex good_Str hf46 hE56
        have q61 := RdS.ex good_Idx hf47 hE56
        have q62 := Box.ex hf48 hE56
        have q63 := RdS.ex good_Str hf49 hE56
        have q64 := Ex.trans hf50 hE56
        exact ⟨p_r.Vals.length - (k22 + 1), by omega, k22 + 1, rfl, hlt52, rfl, rfl, rfl, rfl, rfl, q59, q60, q61, q62, q63, q64, (loopM.cont hlt52 hB58).symm.trans hI39⟩
      · skip
        refine CW.cond_t rfl (not_f hb57) ?_
        refine CW.seq ?_
        refine CW.region ?_
        refine SeqR.d1 rfl rfl rfl (yl_assign rfl rfl ?_)
        refine SeqR.done ?_
        refine tn ?_
        refine CW.ret ?_
        refine br ?_
        refine tr ?_
        refine tr ?_
        have hB66 : B_s_l25Good_0 p_t p_r k22 () = .ret false := by simp only [B_s_l25Good_0, hb57, cond_true, cond_false, loopE_done, loopE_ret]
        have hL65 : loopM (B_s_l25Good_0 p_t p_r) (p_r.Vals.length - 0) 0 () = .ret false := hI39.symm.trans (loopM.ret hlt52 hB66)
        refine br ?_
        refine tr ?_
        refine rr rfl (.cons rfl .nil) ?_
        have hM67 : (s_l25Good p_t p_r) = (false) := by simp only [s_l25Good, hb57, hL65, cond_true, cond_false, loopE_done, loopE_ret]
        rw [hM67]
        have q68 := Ex.trans hf50 hE56
        exact ⟨rfl, q68⟩
    · skip
      refine CW.seq ?_
      refine CW.region ?_
      refine SeqR.d1 rfl rfl rfl (yl_lss rfl rfl rfl ?_)
      refine SeqR.done ?_
      refine tn ?_
      refine CW.seq ?_
      refine CW.cond_f rfl (lt_f hlt52) ?_
      refine CW.exit ?_
      refine tx ?_
      refine tx ?_
      have hL69 : loopM (B_s_l25Good_0 p_t p_r) (p_r.Vals.length - 0) 0 () = .done () := hI39.symm.trans (loopM.stop hlt52)
      refine bx ?_
      refine tn ?_
      refine CW.seq ?_
      refine CW.region ?_
      refine SeqR.d1 rfl rfl rfl (yl_fieldAddr Try.fd86_0 rfl rfl ?_)
      refine SeqR.d1 rfl rfl rfl (yl_load1 Try.ty73 rfl rfl ((hf48.cell 0).trans rfl) ?_)
      refine SeqR.d1 rfl rfl rfl (yl_len Try.un73 rfl rfl ?_)
      refine SeqR.d1 rfl rfl rfl (yl_fieldAddr Try.fd84_1 rfl rfl ?_)
      refine SeqR.d1 rfl rfl rfl (yl_load1 Try.ty73 rfl rfl ((hf45.cell 1).trans rfl) ?_)
      refine SeqR.d1 rfl rfl rfl (yl_len Try.un73 rfl rfl ?_)
      refine SeqR.d1 rfl rfl rfl (yl_eql rfl rfl rfl ?_)
      refine SeqR.d1 rfl rfl rfl (yl_assign rfl rfl ?_)
      refine SeqR.done ?_
      refine tn ?_
      refine CW.ret ?_
      refine rr rfl (.cons rfl .nil) ?_
      have hM70 : (s_l25Good p_t p_r) = (decide ((p_r.Vals.length : Int) = (p_t.Cols.length : Int))) := by simp only [s_l25Good, hL69, cond_true, cond_false, loopE_done, loopE_ret]
      rw [hM70]
      exact ⟨rfl, hf50⟩
set_option maxRecDepth 100000 in
set_option maxHeartbeats 2000000 in
theorem c_s_GoodRow {A1 : Option Addr} {c1 : Nat} {A2 : Option Addr} {c2 : Nat} {A4 : Option Addr} {c4 : Nat} {w : World} (p_t : DTable) (p_r : DRow) (h1 : RdS w (Iv 0 w.heap.size) (RF e_Str) 1 A1 p_t.Cols.length c1 p_t.Cols) (h2 : RdS w (Iv 0 w.heap.size) (RF e_Idx) 3 A2 p_t.Idxs.length c2 p_t.Idxs) (h4 : RdS w (Iv 0 w.heap.size) (RF e_Str) 1 A4 p_r.Vals.length c4 p_r.Vals) (o3 : ok_Table p_t) (o5 : ok_Row p_r) : Cal Try.prog 44 #[.agg #[.string (bs (p_t.Name)), .slice A1 p_t.Cols.length c1, .slice A2 p_t.Idxs.length c2], .agg #[.slice A4 p_r.Vals.length c4]] w fun v w' => v = .bool ((s_GoodRow p_t p_r)) ∧ Ex w w' := by
  have hol6 : p_t.Name.length ≤ 1073741824 := o3.1
  have hol7 := o3.2.1.1
  have hol8 := o3.2.2.1
  have hol9 := o5.1
  refine Cal.of (vs := [.agg #[.string (bs (p_t.Name)), .slice A1 p_t.Cols.length c1, .slice A2 p_t.Idxs.length c2], .agg #[.slice A4 p_r.Vals.length c4]]) Try.func44 rfl Try.ntmps44 rfl ?_
  refine CW.seq ?_
  refine CW.region ?_
  refine SeqR.d1 rfl rfl rfl (yl_box (cs := [.string (bs (p_t.Name)), .slice A1 p_t.Cols.length c1, .slice A2 p_t.Idxs.length c2]) rfl rfl rfl ?_)
  intro b10 w11 hs12 hz13 hB14 hE15
  refine SeqR.d1 rfl rfl rfl (yl_box (cs := [.slice A4 p_r.Vals.length c4]) rfl rfl rfl ?_)
  intro b16 w17 hs18 hz19 hB20 hE21
  refine SeqR.d1 rfl rfl rfl (yl_assign rfl rfl ?_)
  refine SeqR.done ?_
  refine tn ?_
  refine CW.seq ?_
  refine CW.region ?_
  have q22 := Box.ex hB14 hE21
  refine SeqR.d1 rfl rfl rfl (yl_loadN (cs := [.string (bs (p_t.Name)), .slice A1 p_t.Cols.length c1, .slice A2 p_t.Idxs.length c2]) Try.ty84 rfl rfl (q22.cells (n := 3) rfl) rfl ?_)
  have q23 := RdS.ex good_Str h1 hE15
  have q24 := RdS.ex good_Str q23 hE21
  have q25 := RdS.ex good_Idx h2 hE15
  have q26 := RdS.ex good_Idx q25 hE21
  refine SeqR.d1 rfl rfl rfl (yl_call Try.en91 rfl (opvs_cons rfl opvs_nil) (Cal.mono (c_s_GoodTable p_t (RdS.up q24 good_Str) (RdS.up q26 good_Idx) o3) ?_))
  rintro v28 w27 ⟨rfl, hE29⟩
  have hE29z := Ex.size hE29
  refine SeqR.d1 rfl rfl rfl (yl_move rfl rfl ?_)
  refine bcase (s_GoodTable p_t) (fun hb30 => ?_) (fun hb30 => ?_)
  · skip
    have q31 := Box.ex q22 hE29
    refine SeqR.y rfl rfl rfl rfl rfl hb30 (yl_loadN (cs := [.string (bs (p_t.Name)), .slice A1 p_t.Cols.length c1, .slice A2 p_t.Idxs.length c2]) Try.ty84 rfl rfl (q31.cells (n := 3) rfl) rfl ?_)
    have q32 := Box.ex hB20 hE29
    refine SeqR.y rfl rfl rfl rfl rfl hb30 (yl_loadN (cs := [.slice A4 p_r.Vals.length c4]) Try.ty86 rfl rfl (q32.cells (n := 1) rfl) rfl ?_)
    have q33 := RdS.ex good_Str q24 hE29
    have q34 := RdS.ex good_Idx q26 hE29
    have q35 := RdS.ex good_Str h4 hE15
    have q36 := RdS.ex good_Str q35 hE21
    have q37 := RdS.ex good_Str q36 hE29
    refine SeqR.y rfl rfl rfl rfl rfl hb30 (yl_call Try.en92 rfl (opvs_cons rfl (opvs_cons rfl opvs_nil)) (Cal.mono (c_s_l25Good p_t p_r (RdS.up q33 good_Str) (RdS.up q34 good_Idx) (RdS.up q37 good_Str) o3 o5) ?_))
    rintro v39 w38 ⟨rfl, hE40⟩
    have hE40z := Ex.size hE40
    refine SeqR.d1 rfl rfl rfl (yl_pick_t rfl rfl hb30 rfl ?_)
    refine SeqR.d1 rfl rfl rfl (yl_assign rfl rfl ?_)
    refine SeqR.done ?_
    refine tn ?_
    refine CW.ret ?_
    refine rr rfl (.cons rfl .nil) ?_
    have hM41 : (s_GoodRow p_t p_r) = ((s_l25Good p_t p_r)) := by simp only [s_GoodRow, hb30, cond_true, cond_false, loopE_done, loopE_ret]
    rw [hM41]
    have q42 := Ex.trans (Ex.refl w) hE15
    have q43 := Ex.trans q42 hE21
    have q44 := Ex.trans q43 hE29
    have q45 := Ex.trans q44 hE40
    exact ⟨rfl, q45⟩
  · skip
    refine SeqR.z rfl rfl rfl rfl rfl hb30 ?_
    refine SeqR.z rfl rfl rfl rfl rfl hb30 ?_
    refine SeqR.z rfl rfl rfl rfl rfl hb30 ?_
    refine SeqR.d1 rfl rfl rfl (yl_pick_f rfl rfl hb30 rfl ?_)
    refine SeqR.d1 rfl rfl rfl (yl_assign rfl rfl ?_)
    refine SeqR.done ?_
    refine tn ?_
    refine CW.ret ?_
    refine rr rfl (.cons rfl .nil) ?_
    have hM46 : (s_GoodRow p_t p_r) = (false) := by simp only [s_GoodRow, hb30, cond_true, cond_false, loopE_done, loopE_ret]
    rw [hM46]
    have q47 := Ex.trans (Ex.refl w) hE15
    have q48 := Ex.trans q47 hE21
    have q49 := Ex.trans q48 hE29
    exact ⟨rfl, q49⟩
set_option maxRecDepth 100000 in
set_option maxHeartbeats 2000000 in
theorem c_l_toStringS {A1 : Option Addr} {c1 : Nat} {w : World} (p_a : List Str) (h1 : RdS w (Iv 0 w.heap.size) (RF e_Str) 1 A1 p_a.length c1 p_a) (o2 : (okL okS) p_a) : Cal Try.prog 93 #[.slice A1 p_a.length c1] w fun v w' => ∃ A_1 c_1, v = .slice A_1 p_a.length c_1 ∧ RdS w' (Iv w.heap.size w'.heap.size) (RF e_Str) 1 A_1 p_a.length c_1 p_a ∧ Ex w w' := by
  have hol3 := o2.1
  refine Cal.of (vs := [.slice A1 p_a.length c1]) Try.func93 rfl Try.ntmps93 rfl ?_
  refine CW.seq ?_
  refine CW.region ?_
  refine SeqR.d1 rfl rfl rfl (yl_assign rfl rfl ?_)
  refine SeqR.done ?_
  refine tn ?_
  refine CW.seq ?_
  refine CW.region ?_
  refine SeqR.d1 rfl rfl rfl (yl_move rfl rfl ?_)
  refine SeqR.d1 rfl rfl rfl (yl_len Try.un73 rfl rfl ?_)
  refine SeqR.d1 rfl rfl rfl (yl_make (zs := [.string (bs (([] : Str)))]) (n := p_a.length) Try.un73 Try.ty9 rfl rfl (Nat.le_of_ble_eq_true rfl) rfl rfl rfl (by first | omega | assumption | (simp only [IntKind.wrap_i64] at *; omega)) (by first | omega | assumption | (simp only [IntKind.wrap_i64] at *; omega)) ?_)
  intro b4 w5 hs6 hz7 hB8 hE9
  have hO10 : OwnL w5 b4 (b4 + 1) 9 1 (RF e_Str) (some ⟨b4, 0, none⟩) p_a.length p_a.length (List.replicate p_a.length d_Str) := by have := OwnL.of_boxF (lo := b4) (hi := b4 + 1) (xs := (List.replicate p_a.length d_Str)) hB8 (Nat.le_refl _) (Nat.lt_succ_self _) (EncL.zerosF (enc := e_Str) (d := d_Str) rfl p_a.length) (by rw [List.length_replicate]; omega); rwa [List.length_replicate] at this
  refine SeqR.d1 rfl rfl rfl (yl_assign rfl rfl ?_)
  refine SeqR.done ?_
  refine tn ?_
  refine CW.seq ?_
  refine CW.seq ?_
  refine CW.region ?_
  refine SeqR.d1 rfl rfl rfl (yl_assign rfl rfl ?_)
  refine SeqR.done ?_
  refine tn ?_
  refine CW.block ?_
  have q23 := RdS.ex good_Str h1 hE9
  have q24 := Ex.trans (Ex.refl w) hE9
  refine CW.loop (fun m20 L21 w22 => ∃ (k11 : Nat) (x19 : List Str), m20 = p_a.length - k11 ∧ k11 ≤ p_a.length ∧ lkp L21 0 = some (.slice A1 p_a.length c1) ∧ lkp L21 3 = some (.slice (some ⟨b4, 0, none⟩) p_a.length p_a.length) ∧ lkp L21 4 = some (.int .i64 ((k11 : Int))) ∧ RdS w22 (Iv 0 w.heap.size) (RF e_Str) 1 A1 p_a.length c1 p_a ∧ OwnL w22 b4 (b4 + 1) 9 1 (RF e_Str) (some ⟨b4, 0, none⟩) p_a.length p_a.length x19 ∧ Ex w w22 ∧ loopM (B_l_toStringS_0 p_a) (p_a.length - k11) k11 (x19) = loopM (B_l_toStringS_0 p_a) (p_a.length - 0) 0 ((List.replicate p_a.length d_Str))) (p_a.length - 0) ?_ ?_
  · exact ⟨0, (List.replicate p_a.length d_Str), rfl, Nat.zero_le _, rfl, rfl, rfl, q23, hO10, q24, rfl⟩
  · rintro m25 L26 w27 ⟨k11, x19, rfl, hk28, hl30, hl31, hl32, hf33, hf34, hf35, hI29⟩
    refine CW.sub (Sub.cons hl30 (Sub.cons hl31 (Sub.cons hl32 (Sub.nil _)))) ?_
    have hf35z := Ex.size hf35
    have hbg36 := RdS.big hf33
    rcases Nat.lt_or_ge k11 p_a.length with hlt37 | hlt37
    · skip
      refine CW.seq ?_
      refine CW.seq ?_
      refine CW.region ?_
      refine SeqR.d1 rfl rfl rfl (yl_move rfl rfl ?_)
      refine SeqR.d1 rfl rfl rfl (yl_move rfl rfl ?_)
      refine SeqR.d1 rfl rfl rfl (yl_len Try.un73 rfl rfl ?_)
      refine SeqR.d1 rfl rfl rfl (yl_lss rfl rfl rfl ?_)
      refine SeqR.done ?_
      refine tn ?_
      refine CW.cond_t rfl (lt_t hlt37) ?_
      refine CW.skip ?_
      refine tn ?_
      refine CW.seq ?_
      refine CW.block ?_
      refine CW.region ?_
      refine SeqR.d1 rfl rfl rfl (yl_move rfl rfl ?_)
      refine SeqR.d1 rfl rfl rfl (yl_move rfl rfl ?_)
      refine SeqR.d1 rfl rfl rfl (yl_move rfl rfl ?_)
      refine SeqR.d1 rfl rfl rfl (yl_move rfl rfl ?_)
      obtain ⟨eb38, eo38, ec38, eA38, eS38, ebl38, el38, eR38, eC38⟩ := RdS.atD hf33 d_Str (i := k11) (by first | omega | assumption)
      obtain rfl := eR38
      have eC38 : Cells w27 eb38 (eo38 + k11 * 1) [.string (bs ((p_a.getD k11 d_Str)))] := eC38
      refine SeqR.d1 rfl rfl rfl (yl_indexAddrN Try.un73 Try.ty9 rfl rfl rfl eA38 (by first | omega | assumption | (simp only [IntKind.wrap_i64] at *; omega)) ?_)
      refine SeqR.d1 rfl rfl rfl (yl_load1 Try.ty9 rfl rfl (eC38 0 _ rfl) ?_)
      have q39 := OwnL.rd good_Str hf34
      obtain ⟨eb40, eo40, ec40, eA40, eS40, ebl40, el40, eR40, eC40⟩ := RdS.atD q39 d_Str (i := k11) (by first | omega | assumption)
      obtain rfl := eR40
      have eC40 : Cells w27 eb40 (eo40 + k11 * 1) [.string (bs ((x19.getD k11 d_Str)))] := eC40
      refine SeqR.d1 rfl rfl rfl (yl_indexAddrN Try.un73 Try.ty9 rfl rfl rfl eA40 (by first | omega | assumption | (simp only [IntKind.wrap_i64] at *; omega)) ?_)
      have hrg41 := OwnL.rng hf34 eb40 (by rw [eA40]; rfl)
      refine SeqR.u rfl rfl (yl_storeF (off := eo40) (i := k11) (d := 0) (dx := d_Str) (x' := (p_a.getD k11 d_Str)) (vs := [.string (bs ((p_a.getD k11 d_Str)))]) Try.ty9 rfl hf34 eA40 rfl rfl rfl rfl rfl (by first | omega | assumption | (simp only [IntKind.wrap_i64] at *; omega)) (Nat.le_of_ble_eq_true rfl) rfl rfl ?_)
      intro w42 hB43 hO44
      have hO44z := hO44.size
      refine SeqR.done ?_
      refine bn ?_
      refine tn ?_
      refine CW.region ?_
      refine SeqR.d1 rfl rfl rfl (yl_move rfl rfl ?_)
      refine SeqR.d1 rfl rfl rfl (yl_inc rfl rfl rfl (by omega) ?_)
      refine SeqR.d1 rfl rfl rfl (yl_assign rfl rfl ?_)
      refine SeqR.done ?_
      refine tn ?_
      have hB45 : B_l_toStringS_0 p_a k11 (x19) = .cont ((x19.set k11 (p_a.getD k11 d_Str))) := by simp only [B_l_toStringS_0, cond_true, cond_false, loopE_done, loopE_ret]
      have q46 := RdS.only good_Str hf33 hO44 (by simp only [Iv]; omega)
      have q47 := Below.only hf35 hO44 (by omega)
      exact ⟨p_a.length - (k11 + 1), by omega, k11 + 1, (x19.set k11 (p_a.getD k11 d_Str)), rfl, hlt37, rfl, rfl, rfl, q46, hB43, q47, (loopM.cont hlt37 hB45).symm.trans hI29⟩
    · skip
      refine CW.seq ?_
      refine CW.seq ?_
      refine CW.region ?_
      refine SeqR.d1 rfl rfl rfl (yl_move rfl rfl ?_)
      refine SeqR.d1 rfl rfl rfl (yl_move rfl rfl ?_)
      refine SeqR.d1 rfl rfl rfl (yl_len Try.un73 rfl rfl ?_)
      refine SeqR.d1 rfl rfl rfl (yl_lss rfl rfl rfl ?_)
      refine SeqR.done ?_
      refine tn ?_
      refine CW.cond_f rfl (lt_f hlt37) ?_
      refine CW.exit ?_
      refine tx ?_
      refine tx ?_
      have hL48 : loopM (B_l_toStringS_0 p_a) (p_a.length - 0) 0 ((List.replicate p_a.length d_Str)) = .done (x19) := hI29.symm.trans (loopM.stop hlt37)
      refine bx ?_
      refine tn ?_
      refine CW.seq ?_
      refine CW.region ?_
      refine SeqR.d1 rfl rfl rfl (yl_move rfl rfl ?_)
      refine SeqR.d1 rfl rfl rfl (yl_assign rfl rfl ?_)
      refine SeqR.done ?_
      refine tn ?_
      refine CW.ret ?_
      refine rr rfl (.cons rfl .nil) ?_
      have hM49 : p_a = (x19) := (to_StringS _).symm.trans <| by simp only [l_toStringS, hL48, cond_true, cond_false, loopE_done, loopE_ret]
      have q50 := OwnL.rd good_Str hf34
      subst hM49
      exact ⟨(some ⟨b4, 0, none⟩), p_a.length, rfl, (RdS.wideI good_Str q50 (by omega)), hf35⟩
set_option maxRecDepth 100000 in
set_option maxHeartbeats 2000000 in
theorem c_l_toIdx {w : World} (p_a : DIdx) (o1 : ok_Idx p_a) : Cal Try.prog 119 #[.agg #[.string (bs (p_a.Name)), .int .i64 (p_a.Col), .int .i64 (p_a.Stage)]] w fun v w' => v = .agg #[.string (bs (p_a.Name)), .int .i64 (p_a.Col), .int .i64 (p_a.Stage)] ∧ Ex w w' := by
  have hol2 : p_a.Name.length ≤ 1073741824 := o1
  refine Cal.of (vs := [.agg #[.string (bs (p_a.Name)), .int .i64 (p_a.Col), .int .i64 (p_a.Stage)]]) Try.func119 rfl Try.ntmps119 rfl ?_
  refine CW.seq ?_
  refine CW.region ?_
  refine SeqR.d1 rfl rfl rfl (yl_box (cs := [.string (bs (p_a.Name)), .int .i64 (p_a.Col), .int .i64 (p_a.Stage)]) rfl rfl rfl ?_)
  intro b3 w4 hs5 hz6 hB7 hE8
  refine SeqR.d1 rfl rfl rfl (yl_alloc Try.ty149 (cs := [.string (bs (([] : Str))), .int .i64 (0), .int .i64 (0)]) rfl rfl ?_)
  intro b9 w10 hs11 hz12 hB13 hE14
  refine SeqR.done ?_
  refine tn ?_
  refine CW.seq ?_
  refine CW.region ?_
  refine SeqR.d1 rfl rfl rfl (yl_alloc Try.ty149 (cs := [.string (bs (([] : Str))), .int .i64 (0), .int .i64 (0)]) rfl rfl ?_)
  intro b15 w16 hs17 hz18 hB19 hE20
  refine SeqR.done ?_
  refine tn ?_
  refine CW.seq ?_
  refine CW.region ?_
  refine SeqR.d1 rfl rfl rfl (yl_fieldAddr Try.fd146_0 rfl rfl ?_)
  have q21 := Box.ex hB7 hE14
  have q22 := Box.ex q21 hE20
  refine SeqR.d1 rfl rfl rfl (yl_load1 Try.ty9 rfl rfl ((q22.cell 0).trans rfl) ?_)
  refine SeqR.d1 rfl rfl rfl (yl_fieldAddr Try.fd149_0 rfl rfl ?_)
  refine SeqR.u rfl rfl (yl_store (vs := [.string (bs (p_a.Name))]) Try.ty9 rfl rfl rfl rfl rfl rfl hB19 (Nat.le_of_ble_eq_true rfl) ?_)
  intro w23 hB24 hO25
  have hB24 : Box w23 b15 149 [.string (bs (p_a.Name)), .int .i64 (0), .int .i64 (0)] := hB24
  have hO25z := hO25.size
  refine SeqR.done ?_
  refine tn ?_
  refine CW.seq ?_
  refine CW.region ?_
  refine SeqR.d1 rfl rfl rfl (yl_fieldAddr Try.fd146_1 rfl rfl ?_)
  have q26 := Box.only q22 hO25 (by omega)
  refine SeqR.d1 rfl rfl rfl (yl_load1 Try.ty3 rfl rfl ((q26.cell 1).trans rfl) ?_)
  refine SeqR.d1 rfl rfl rfl (yl_fieldAddr Try.fd149_1 rfl rfl ?_)
  refine SeqR.u rfl rfl (yl_store (vs := [.int .i64 (p_a.Col)]) Try.ty3 rfl rfl rfl rfl rfl rfl hB24 (Nat.le_of_ble_eq_true rfl) ?_)
  intro w27 hB28 hO29
  have hB28 : Box w27 b15 149 [.string (bs (p_a.Name)), .int .i64 (p_a.Col), .int .i64 (0)] := hB28
  have hO29z := hO29.size
  refine SeqR.done ?_
  refine tn ?_
  refine CW.seq ?_
  refine CW.region ?_
  refine SeqR.d1 rfl rfl rfl (yl_fieldAddr Try.fd146_2 rfl rfl ?_)
  have q30 := Box.only q26 hO29 (by omega)
  refine SeqR.d1 rfl rfl rfl (yl_load1 Try.ty3 rfl rfl ((q30.cell 2).trans rfl) ?_)
  refine SeqR.d1 rfl rfl rfl (yl_fieldAddr Try.fd149_2 rfl rfl ?_)
  refine SeqR.u rfl rfl (yl_store (vs := [.int .i64 (p_a.Stage)]) Try.ty3 rfl rfl rfl rfl rfl rfl hB28 (Nat.le_of_ble_eq_true rfl) ?_)
  intro w31 hB32 hO33
  have hB32 : Box w31 b15 149 [.string (bs (p_a.Name)), .int .i64 (p_a.Col), .int .i64 (p_a.Stage)] := hB32
  have hO33z := hO33.size
  refine SeqR.done ?_
  refine tn ?_
  refine CW.seq ?_
  refine CW.region ?_
  refine SeqR.d1 rfl rfl rfl (yl_loadN (cs := [.string (bs (p_a.Name)), .int .i64 (p_a.Col), .int .i64 (p_a.Stage)]) Try.ty149 rfl rfl (hB32.cells (n := 3) rfl) rfl ?_)
  have q34 := Box.ex hB13 hE20
  have q35 := Box.only q34 hO25 (by omega)
  have q36 := Box.only q35 hO29 (by omega)
  have q37 := Box.only q36 hO33 (by omega)
  refine SeqR.u rfl rfl (yl_store (vs := [.string (bs (p_a.Name)), .int .i64 (p_a.Col), .int .i64 (p_a.Stage)]) Try.ty149 rfl rfl rfl rfl rfl rfl q37 (Nat.le_of_ble_eq_true rfl) ?_)
  intro w38 hB39 hO40
  have hB39 : Box w38 b9 149 [.string (bs (p_a.Name)), .int .i64 (p_a.Col), .int .i64 (p_a.Stage)] := hB39
  have hO40z := hO40.size
  refine SeqR.done ?_
  refine tn ?_
  refine CW.ret ?_
  refine rr rfl (.cons ⟨_, rfl, run_loadN Try.ty149 (cs := [.string (bs (p_a.Name)), .int .i64 (p_a.Col), .int .i64 (p_a.Stage)]) rfl (hB39.cells (n := 3) rfl)⟩ .nil) ?_
  have hM41 : p_a = (p_a) := (to_Idx _).symm.trans <| by simp only [l_toIdx, cond_true, cond_false, loopE_done, loopE_ret]
  rw [hM41]
  have q42 := Ex.trans (Ex.refl w) hE8
  have q43 := Ex.trans q42 hE14
  have q44 := Ex.trans q43 hE20
  have q45 := Below.only q44 hO25 (by omega)
  have q46 := Below.only q45 hO29 (by omega)
  have q47 := Below.only q46 hO33 (by omega)
  have q48 := Below.only q47 hO40 (by omega)
  exact ⟨rfl, q48⟩
set_option maxRecDepth 100000 in
set_option maxHeartbeats 2000000 in
theorem c_l_toIdxS {A1 : Option Addr} {c1 : Nat} {w : World} (p_a : List DIdx) (h1 : RdS w (Iv 0 w.heap.size) (RF e_Idx) 3 A1 p_a.length c1 p_a) (o2 : (okL ok_Idx) p_a) : Cal Try.prog 94 #[.slice A1 p_a.length c1] w fun v w' => ∃ A_1 c_1, v = .slice A_1 p_a.length c_1 ∧ RdS w' (Iv w.heap.size w'.heap.size) (RF e_Idx) 3 A_1 p_a.length c_1 p_a ∧ Ex w w' := by
  have hol3 := o2.1
  refine Cal.of (vs := [.slice A1 p_a.length c1]) Try.func94 rfl Try.ntmps94 rfl ?_
  refine CW.seq ?_
  refine CW.region ?_
  refine SeqR.d1 rfl rfl rfl (yl_assign rfl rfl ?_)
  refine SeqR.done ?_
  refine tn ?_
  refine CW.seq ?_
  refine CW.region ?_
  refine SeqR.d1 rfl rfl rfl (yl_move rfl rfl ?_)
  refine SeqR.d1 rfl rfl rfl (yl_len Try.un74 rfl rfl ?_)
  refine SeqR.d1 rfl rfl rfl (yl_make (zs := [.string (bs (([] : Str))), .int .i64 (0), .int .i64 (0)]) (n := p_a.length) Try.un82 Try.ty149 rfl rfl (Nat.le_of_ble_eq_true rfl) rfl rfl rfl (by first | omega | assumption | (simp only [IntKind.wrap_i64] at *; omega)) (by first | omega | assumption | (simp only [IntKind.wrap_i64] at *; omega)) ?_)
  intro b4 w5 hs6 hz7 hB8 hE9
  have hO10 : OwnL w5 b4 (b4 + 1) 149 3 (RF e_Idx) (some ⟨b4, 0, none⟩) p_a.length p_a.length (List.replicate p_a.length d_Idx) := by have := OwnL.of_boxF (lo := b4) (hi := b4 + 1) (xs := (List.replicate p_a.length d_Idx)) hB8 (Nat.le_refl _) (Nat.lt_succ_self _) (EncL.zerosF (enc := e_Idx) (d := d_Idx) rfl p_a.length) (by rw [List.length_replicate]; omega); rwa [List.length_replicate] at this
  refine SeqR.d1 rfl rfl rfl (yl_assign rfl rfl ?_)
  refine SeqR.done ?_
  refine tn ?_
  refine CW.seq ?_
  refine CW.seq ?_
  refine CW.region ?_
  refine SeqR.d1 rfl rfl rfl (yl_assign rfl rfl ?_)
  refine SeqR.done ?_
  refine tn ?_
  refine CW.block ?_
  have q26 := RdS.ex good_Idx h1 hE9
  have q27 := Ex.trans (Ex.refl w) hE9
  refine CW.loop (fun m23 L24 w25 => ∃ (k11 : Nat) (x22 : List DIdx), m23 = p_a.length - k11 ∧ k11 ≤ p_a.length ∧ lkp L24 0 = some (.slice A1 p_a.length c1) ∧ lkp L24 3 = some (.slice (some ⟨b4, 0, none⟩) p_a.length p_a.length) ∧ lkp L24 4 = some (.int .i64 ((k11 : Int))) ∧ RdS w25 (Iv 0 w.heap.size) (RF e_Idx) 3 A1 p_a.length c1 p_a ∧ OwnL w25 b4 (b4 + 1) 149 3 (RF e_Idx) (some ⟨b4, 0, none⟩) p_a.length p_a.length x22 ∧ Ex w w25 ∧ loopM (B_l_toIdxS_0 p_a) (p_a.length - k11) k11 (x22) = loopM (B_l_toIdxS_0 p_a) (p_a.length - 0) 0 ((List.replicate p_a.length d_Idx))) (p_a.length - 0) ?_ ?_
  · exact ⟨0, (List.replicate p_a.length d_Idx), rfl, Nat.zero_le _, rfl, rfl, rfl, q26, hO10, q27, rfl⟩
  · rintro m28 L29 w30 ⟨k11, x22, rfl, hk31, hl33, hl34, hl35, hf36, hf37, hf38, hI32⟩
    refine CW.sub (Sub.cons hl33 (Sub.cons hl34 (Sub.cons hl35 (Sub.nil _)))) ?_
    have hf38z := Ex.size hf38
    have hbg39 := RdS.big hf36
    rcases Nat.lt_or_ge k11 p_a.length with hlt40 | hlt40
    · skip
      refine CW.seq ?_
      refine CW.seq ?_
      refine CW.region ?_
      refine SeqR.d1 rfl rfl rfl (yl_move rfl rfl ?_)
      refine SeqR.d1 rfl rfl rfl (yl_move rfl rfl ?_)
      refine SeqR.d1 rfl rfl rfl (yl_len Try.un74 rfl rfl ?_)
      refine SeqR.d1 rfl rfl rfl (yl_lss rfl rfl rfl ?_)
      refine SeqR.done ?_
      refine tn ?_
      refine CW.cond_t rfl (lt_t hlt40) ?_
      refine CW.skip ?_
      refine tn ?_
      refine CW.seq ?_
      refine CW.block ?_
      refine CW.region ?_
      refine SeqR.d1 rfl rfl rfl (yl_move rfl rfl ?_)
      refine SeqR.d1 rfl rfl rfl (yl_move rfl rfl ?_)
      refine SeqR.d1 rfl rfl rfl (yl_move rfl rfl ?_)
      refine SeqR.d1 rfl rfl rfl (yl_move rfl rfl ?_)
      obtain ⟨eb41, eo41, ec41, eA41, eS41, ebl41, el41, eR41, eC41⟩ := RdS.atD hf36 d_Idx (i := k11) (by first | omega | assumption)
      obtain rfl := eR41
      have eC41 : Cells w30 eb41 (eo41 + k11 * 3) [.string (bs ((p_a.getD k11 d_Idx).Name)), .int .i64 ((p_a.getD k11 d_Idx).Col), .int .i64 ((p_a.getD k11 d_Idx).Stage)] := eC41
      refine SeqR.d1 rfl rfl rfl (yl_indexAddrN Try.un74 Try.ty146 rfl rfl rfl eA41 (by first | omega | assumption | (simp only [IntKind.wrap_i64] at *; omega)) ?_)
      refine SeqR.d1 rfl rfl rfl (yl_loadN (cs := [.string (bs ((p_a.getD k11 d_Idx).Name)), .int .i64 ((p_a.getD k11 d_Idx).Col), .int .i64 ((p_a.getD k11 d_Idx).Stage)]) Try.ty146 rfl rfl eC41 rfl ?_)
      refine SeqR.d1 rfl rfl rfl (yl_call Try.en119 rfl (opvs_cons rfl opvs_nil) (Cal.mono (c_l_toIdx (p_a.getD k11 d_Idx) (okL.getD o2 ok_d_Idx _)) ?_))
      rintro v43 w42 ⟨rfl, hE44⟩
      have hE44z := Ex.size hE44
      have q46 := OwnL.ex good_Idx hf37 hE44
      have q45 := OwnL.rd good_Idx q46
      obtain ⟨eb47, eo47, ec47, eA47, eS47, ebl47, el47, eR47, eC47⟩ := RdS.atD q45 d_Idx (i := k11) (by first | omega | assumption)
      obtain rfl := eR47
      have eC47 : Cells w42 eb47 (eo47 + k11 * 3) [.string (bs ((x22.getD k11 d_Idx).Name)), .int .i64 ((x22.getD k11 d_Idx).Col), .int .i64 ((x22.getD k11 d_Idx).Stage)] := eC47
      refine SeqR.d1 rfl rfl rfl (yl_indexAddrN Try.un82 Try.ty149 rfl rfl rfl eA47 (by first | omega | assumption | (simp only [IntKind.wrap_i64] at *; omega)) ?_)
      have hrg48 := OwnL.rng q46 eb47 (by rw [eA47]; rfl)
      refine SeqR.u rfl rfl (yl_storeF (off := eo47) (i := k11) (d := 0) (dx := d_Idx) (x' := (p_a.getD k11 d_Idx)) (vs := [.string (bs ((p_a.getD k11 d_Idx).Name)), .int .i64 ((p_a.getD k11 d_Idx).Col), .int .i64 ((p_a.getD k11 d_Idx).Stage)]) Try.ty149 rfl q46 eA47 rfl rfl rfl rfl rfl (by first | omega | assumption | (simp only [IntKind.wrap_i64] at *; omega)) (Nat.le_of_ble_eq_true rfl) rfl rfl ?_)
      intro w49 hB50 hO51
      have hO51z := hO51.size
      refine SeqR.done ?_
      refine bn ?_
      refine tn ?_
      refine CW.region ?_
      refine SeqR.d1 rfl rfl rfl (yl_move rfl rfl ?_)
      refine SeqR.d1 rfl rfl rfl (yl_inc rfl rfl rfl (by omega) ?_)
      refine SeqR.d1 rfl rfl rfl (yl_assign rfl rfl ?_)
      refine SeqR.done ?_
      refine tn ?_
      have hB52 : B_l_toIdxS_0 p_a k11 (x22) = .cont ((x22.set k11 (p_a.getD k11 d_Idx))) := by simp only [B_l_toIdxS_0, cond_true, cond_false, loopE_done, loopE_ret]
      have q53 := RdS.ex good_Idx hf36 hE44
      have q54 := RdS.only good_Idx q53 hO51 (by simp only [Iv]; omega)
      have q55 := Ex.trans hf38 hE44
      have q56 := Below.only q55 hO51 (by omega)
      exact ⟨p_a.length - (k11 + 1), by omega, k11 + 1, (x22.set k11 (p_a.getD k11 d_Idx)), rfl, hlt40, rfl, rfl, rfl, q54, hB50, q56, (loopM.cont hlt40 hB52).symm.trans hI32⟩
    · skip
      refine CW.seq ?_
      refine CW.seq ?_
      refine CW.region ?_
      refine SeqR.d1 rfl rfl rfl (yl_move rfl rfl ?_)
      refine SeqR.d1 rfl rfl rfl (yl_move rfl rfl ?_)
      refine SeqR.d1 rfl rfl rfl (yl_len Try.un74 rfl rfl ?_)
      refine SeqR.d1 rfl rfl rfl (yl_lss rfl rfl rfl ?_)
      refine SeqR.done ?_
      refine tn ?_
      refine CW.cond_f rfl (lt_f hlt40) ?_
      refine CW.exit ?_
      refine tx ?_
      refine tx ?_
      have hL57 : loopM (B_l_toIdxS_0 p_a) (p_a.length - 0) 0 ((List.replicate p_a.length d_Idx)) = .done (x22) := hI32.symm.trans (loopM.stop hlt40)
      refine bx ?_
      refine tn ?_
      refine CW.seq ?_
      refine CW.region ?_
      refine SeqR.d1 rfl rfl rfl (yl_move rfl rfl ?_)
      refine SeqR.d1 rfl rfl rfl (yl_assign rfl rfl ?_)
      refine SeqR.done ?_
      refine tn ?_
      refine CW.ret ?_
      refine rr rfl (.cons rfl .nil) ?_
      have hM58 : p_a = (x22) := (to_IdxS _).symm.trans <| by simp only [l_toIdxS, hL57, cond_true, cond_false, loopE_done, loopE_ret]
      have q59 := OwnL.rd good_Idx hf37
      subst hM58
      exact ⟨(some ⟨b4, 0, none⟩), p_a.length, rfl, (RdS.wideI good_Idx q59 (by omega)), hf38⟩
set_option maxRecDepth 100000 in
set_option maxHeartbeats 2000000 in
theorem c_l_toTable {A1 : Option Addr} {c1 : Nat} {A2 : Option Addr} {c2 : Nat} {w : World} (p_a : DTable) (h1 : RdS w (Iv 0 w.heap.size) (RF e_Str) 1 A1 p_a.Cols.length c1 p_a.Cols) (h2 : RdS w (Iv 0 w.heap.size) (RF e_Idx) 3 A2 p_a.Idxs.length c2 p_a.Idxs) (o3 : ok_Table p_a) : Cal Try.prog 45 #[.agg #[.string (bs (p_a.Name)), .slice A1 p_a.Cols.length c1, .slice A2 p_a.Idxs.length c2]] w fun v w' => ∃ A_1 c_1 A_2 c_2, v = .agg #[.string (bs (p_a.Name)), .slice A_1 p_a.Cols.length c_1, .slice A_2 p_a.Idxs.length c_2] ∧ RdS w' (Iv w.heap.size w'.heap.size) (RF e_Str) 1 A_1 p_a.Cols.length c_1 p_a.Cols ∧ RdS w' (Iv w.heap.size w'.heap.size) (RF e_Idx) 3 A_2 p_a.Idxs.length c_2 p_a.Idxs ∧ Ex w w' := by
  have hol4 : p_a.Name.length ≤ 1073741824 := o3.1
  have hol5 := o3.2.1.1
  have hol6 := o3.2.2.1
  refine Cal.of (vs := [.agg #[.string (bs (p_a.Name)), .slice A1 p_a.Cols.length c1, .slice A2 p_a.Idxs.length c2]]) Try.func45 rfl Try.ntmps45 rfl ?_
  refine CW.seq ?_
  refine CW.region ?_
  refine SeqR.d1 rfl rfl rfl (yl_box (cs := [.string (bs (p_a.Name)), .slice A1 p_a.Cols.length c1, .slice A2 p_a.Idxs.length c2]) rfl rfl rfl ?_)
  intro b7 w8 hs9 hz10 hB11 hE12
  refine SeqR.d1 rfl rfl rfl (yl_alloc Try.ty84 (cs := [.string (bs (([] : Str))), .slice none 0 0, .slice none 0 0]) rfl rfl ?_)
  intro b13 w14 hs15 hz16 hB17 hE18
  refine SeqR.done ?_
  refine tn ?_
  refine CW.seq ?_
  refine CW.region ?_
  refine SeqR.d1 rfl rfl rfl (yl_alloc Try.ty84 (cs := [.string (bs (([] : Str))), .slice none 0 0, .slice none 0 0]) rfl rfl ?_)
  intro b19 w20 hs21 hz22 hB23 hE24
  refine SeqR.done ?_
  refine tn ?_
  refine CW.seq ?_
  refine CW.region ?_
  refine SeqR.d1 rfl rfl rfl (yl_fieldAddr Try.fd76_0 rfl rfl ?_)
  have q25 := Box.ex hB11 hE18
  have q26 := Box.ex q25 hE24
  refine SeqR.d1 rfl rfl rfl (yl_load1 Try.ty9 rfl rfl ((q26.cell 0).trans rfl) ?_)
  refine SeqR.d1 rfl rfl rfl (yl_fieldAddr Try.fd84_0 rfl rfl ?_)
  refine SeqR.u rfl rfl (yl_store (vs := [.string (bs (p_a.Name))]) Try.ty9 rfl rfl rfl rfl rfl rfl hB23 (Nat.le_of_ble_eq_true rfl) ?_)
  intro w27 hB28 hO29
  have hB28 : Box w27 b19 84 [.string (bs (p_a.Name)), .slice none 0 0, .slice none 0 0] := hB28
  have hO29z := hO29.size
  refine SeqR.done ?_
  refine tn ?_
  refine CW.seq ?_
  refine CW.region ?_
  refine SeqR.d1 rfl rfl rfl (yl_fieldAddr Try.fd76_1 rfl rfl ?_)
  have q30 := Box.only q26 hO29 (by omega)
  refine SeqR.d1 rfl rfl rfl (yl_load1 Try.ty73 rfl rfl ((q30.cell 1).trans rfl) ?_)
  have q31 := RdS.ex good_Str h1 hE12
  have q32 := RdS.ex good_Str q31 hE18
  have q33 := RdS.ex good_Str q32 hE24
  have q34 := RdS.only good_Str q33 hO29 (by simp only [Iv]; omega)
  refine SeqR.d1 rfl rfl rfl (yl_call Try.en93 rfl (opvs_cons rfl opvs_nil) (Cal.mono (c_l_toStringS p_a.Cols (RdS.up q34 good_Str) o3.2.1) ?_))
  rintro v37 w35 ⟨A36, c36, rfl, h36, hE38⟩
  have hE38z := Ex.size hE38
  refine SeqR.d1 rfl rfl rfl (yl_fieldAddr Try.fd84_1 rfl rfl ?_)
  have q39 := Box.ex hB28 hE38
  refine SeqR.u rfl rfl (yl_store (vs := [.slice A36 p_a.Cols.length c36]) Try.ty73 rfl rfl rfl rfl rfl rfl q39 (Nat.le_of_ble_eq_true rfl) ?_)
  intro w40 hB41 hO42
  have hB41 : Box w40 b19 84 [.string (bs (p_a.Name)), .slice A36 p_a.Cols.length c36, .slice none 0 0] := hB41
  have hO42z := hO42.size
  refine SeqR.done ?_
  refine tn ?_
  refine CW.seq ?_
  refine CW.region ?_
  refine SeqR.d1 rfl rfl rfl (yl_fieldAddr Try.fd76_2 rfl rfl ?_)
  have q43 := Box.ex q30 hE38
  have q44 := Box.only q43 hO42 (by omega)
  refine SeqR.d1 rfl rfl rfl (yl_load1 Try.ty74 rfl rfl ((q44.cell 2).trans rfl) ?_)
  have q45 := RdS.ex good_Idx h2 hE12
  have q46 := RdS.ex good_Idx q45 hE18
  have q47 := RdS.ex good_Idx q46 hE24
  have q48 := RdS.only good_Idx q47 hO29 (by simp only [Iv]; omega)
  have q49 := RdS.ex good_Idx q48 hE38
  have q50 := RdS.only good_Idx q49 hO42 (by simp only [Iv]; omega)
  refine SeqR.d1 rfl rfl rfl (yl_call Try.en94 rfl (opvs_cons rfl opvs_nil) (Cal.mono (c_l_toIdxS p_a.Idxs (RdS.up q50 good_Idx) o3.2.2) ?_))
  rintro v53 w51 ⟨A52, c52, rfl, h52, hE54⟩
  have hE54z := Ex.size hE54
  refine SeqR.d1 rfl rfl rfl (yl_fieldAddr Try.fd84_2 rfl rfl ?_)
  have q55 := Box.ex hB41 hE54
  refine SeqR.u rfl rfl (yl_store (vs := [.slice A52 p_a.Idxs.length c52]) Try.ty82 rfl rfl rfl rfl rfl rfl q55 (Nat.le_of_ble_eq_true rfl) ?_)
  intro w56 hB57 hO58
  have hB57 : Box w56 b19 84 [.string (bs (p_a.Name)), .slice A36 p_a.Cols.length c36, .slice A52 p_a.Idxs.length c52] := hB57
  have hO58z := hO58.size
  refine SeqR.done ?_
  refine tn ?_
  refine CW.seq ?_
  refine CW.region ?_
  refine SeqR.d1 rfl rfl rfl (yl_loadN (cs := [.string (bs (p_a.Name)), .slice A36 p_a.Cols.length c36, .slice A52 p_a.Idxs.length c52]) Try.ty84 rfl rfl (hB57.cells (n := 3) rfl) rfl ?_)
  have q59 := Box.ex hB17 hE24
  have q60 := Box.only q59 hO29 (by omega)
  have q61 := Box.ex q60 hE38
  have q62 := Box.only q61 hO42 (by omega)
  have q63 := Box.ex q62 hE54
  have q64 := Box.only q63 hO58 (by omega)
  refine SeqR.u rfl rfl (yl_store (vs := [.string (bs (p_a.Name)), .slice A36 p_a.Cols.length c36, .slice A52 p_a.Idxs.length c52]) Try.ty84 rfl rfl rfl rfl rfl rfl q64 (Nat.le_of_ble_eq_true rfl) ?_)
  intro w65 hB66 hO67
  have hB66 : Box w65 b13 84 [.string (bs (p_a.Name)), .slice A36 p_a.Cols.length c36, .slice A52 p_a.Idxs.length c52] := hB66
  have hO67z := hO67.size
  refine SeqR.done ?_
  refine tn ?_
  refine CW.ret ?_
  refine rr rfl (.cons ⟨_, rfl, run_loadN Try.ty84 (cs := [.string (bs (p_a.Name)), .slice A36 p_a.Cols.length c36, .slice A52 p_a.Idxs.length c52]) rfl (hB66.cells (n := 3) rfl)⟩ .nil) ?_
  have hM68 : p_a = (p_a) := (to_Table _).symm.trans <| by simp only [l_toTable, cond_true, cond_false, loopE_done, loopE_ret]
  have q69 := RdS.only good_Str h36 hO42 (by simp only [Iv]; omega)
  have q70 := RdS.ex good_Str q69 hE54
  have q71 := RdS.only good_Str q70 hO58 (by simp only [Iv]; omega)
  have q72 := RdS.only good_Str q71 hO67 (by simp only [Iv]; omega)
  have q73 := RdS.only good_Idx h52 hO58 (by simp only [Iv]; omega)
  have q74 := RdS.only good_Idx q73 hO67 (by simp only [Iv]; omega)
  rw [hM68]
  have q75 := Ex.trans (Ex.refl w) hE12
  have q76 := Ex.trans q75 hE18
  have q77 := Ex.trans q76 hE24
  have q78 := Below.only q77 hO29 (by omega)
  have q79 := Ex.trans q78 hE38
  have q80 := Below.only q79 hO42 (by omega)
  have q81 := Ex.trans q80 hE54
  have q82 := Below.only q81 hO58 (by omega)
  have q83 := Below.only q82 hO67 (by omega)
  exact ⟨A36, c36, A52, c52, rfl, (RdS.wideI good_Str q72 (by omega)), (RdS.wideI good_Idx q74 (by omega)), q83⟩
set_option maxRecDepth 100000 in
set_option maxHeartbeats 2000000 in
theorem c_l_toRow {A1 : Option Addr} {c1 : Nat} {w : World} (p_a : DRow) (h1 : RdS w (Iv 0 w.heap.size) (RF e_Str) 1 A1 p_a.Vals.length c1 p_a.Vals) (o2 : ok_Row p_a) : Cal Try.prog 46 #[.agg #[.slice A1 p_a.Vals.length c1]] w fun v w' => ∃ A_1 c_1, v = .agg #[.slice A_1 p_a.Vals.length c_1] ∧ RdS w' (Iv w.heap.size w'.heap.size) (RF e_Str) 1 A_1 p_a.Vals.length c_1 p_a.Vals ∧ Ex w w' := by
  have hol3 := o2.1
  refine Cal.of (vs := [.agg #[.slice A1 p_a.Vals.length c1]]) Try.func46 rfl Try.ntmps46 rfl ?_
  refine CW.seq ?_
  refine CW.region ?_
  refine SeqR.d1 rfl rfl rfl (yl_box (cs := [.slice A1 p_a.Vals.length c1]) rfl rfl rfl ?_)
  intro b4 w5 hs6 hz7 hB8 hE9
  refine SeqR.d1 rfl rfl rfl (yl_alloc Try.ty86 (cs := [.slice none 0 0]) rfl rfl ?_)
  intro b10 w11 hs12 hz13 hB14 hE15
  refine SeqR.done ?_
  refine tn ?_
  refine CW.seq ?_
  refine CW.region ?_
  refine SeqR.d1 rfl rfl rfl (yl_alloc Try.ty86 (cs := [.slice none 0 0]) rfl rfl ?_)
  intro b16 w17 hs18 hz19 hB20 hE21
  refine SeqR.done ?_
  refine tn ?_
  refine CW.seq ?_
  refine CW.region ?_
  refine SeqR.d1 rfl rfl rfl (yl_fieldAddr Try.fd78_0 rfl rfl ?_)
  have q22 := Box.ex hB8 hE15
  have q23 := Box.ex q22 hE21
  refine SeqR.d1 rfl rfl rfl (yl_load1 Try.ty73 rfl rfl ((q23.cell 0).trans rfl) ?_)
  have q24 := RdS.ex good_Str h1 hE9
  have q25 := RdS.ex good_Str q24 hE15
  have q26 := RdS.ex good_Str q25 hE21
  refine SeqR.d1 rfl rfl rfl (yl_call Try.en93 rfl (opvs_cons rfl opvs_nil) (Cal.mono (c_l_toStringS p_a.Vals (RdS.up q26 good_Str) o2) ?_))
  rintro v29 w27 ⟨A28, c28, rfl, h28, hE30⟩
  have hE30z := Ex.size hE30
  refine SeqR.d1 rfl rfl rfl (yl_fieldAddr Try.fd86_0 rfl rfl ?_)
  have q31 := Box.ex hB20 hE30
  refine SeqR.u rfl rfl (yl_store (vs := [.slice A28 p_a.Vals.length c28]) Try.ty73 rfl rfl rfl rfl rfl rfl q31 (Nat.le_of_ble_eq_true rfl) ?_)
  intro w32 hB33 hO34
  have hB33 : Box w32 b16 86 [.slice A28 p_a.Vals.length c28] := hB33
  have hO34z := hO34.size
  refine SeqR.done ?_
  refine tn ?_
  refine CW.seq ?_
  refine CW.region ?_
  refine SeqR.d1 rfl rfl rfl (yl_loadN (cs := [.slice A28 p_a.Vals.length c28]) Try.ty86 rfl rfl (hB33.cells (n := 1) rfl) rfl ?_)
  have q35 := Box.ex hB14 hE21
  have q36 := Box.ex q35 hE30
  have q37 := Box.only q36 hO34 (by omega)
  refine SeqR.u rfl rfl (yl_store (vs := [.slice A28 p_a.Vals.length c28]) Try.ty86 rfl rfl rfl rfl rfl rfl q37 (Nat.le_of_ble_eq_true rfl) ?_)
  intro w38 hB39 hO40
  have hB39 : Box w38 b10 86 [.slice A28 p_a.Vals.length c28] := hB39
  have hO40z := hO40.size
  refine SeqR.done ?_
  refine tn ?_
  refine CW.ret ?_
  refine rr rfl (.cons ⟨_, rfl, run_loadN Try.ty86 (cs := [.slice A28 p_a.Vals.length c28]) rfl (hB39.cells (n := 1) rfl)⟩ .nil) ?_
  have hM41 : p_a = (p_a) := (to_Row _).symm.trans <| by simp only [l_toRow, cond_true, cond_false, loopE_done, loopE_ret]
  have q42 := RdS.only good_Str h28 hO34 (by simp only [Iv]; omega)
  have q43 := RdS.only good_Str q42 hO40 (by simp only [Iv]; omega)
  rw [hM41]
  have q44 := Ex.trans (Ex.refl w) hE9
  have q45 := Ex.trans q44 hE15
  have q46 := Ex.trans q45 hE21
  have q47 := Ex.trans q46 hE30
  have q48 := Below.only q47 hO34 (by omega)
  have q49 := Below.only q48 hO40 (by omega)
  exact ⟨A28, c28, rfl, (RdS.wideI good_Str q43 (by omega)), q49⟩
set_option maxRecDepth 100000 in
set_option maxHeartbeats 2000000 in
theorem c_i_within {w : World} (p_n : Int) (p_low : Int) (p_high : Int) : Cal Try.prog 56 #[.int .i64 (p_n), .int .i64 (p_low), .int .i64 (p_high)] w fun v w' => v = .bool ((i_within p_n p_low p_high)) ∧ Ex w w' := by
  refine Cal.of (vs := [.int .i64 (p_n), .int .i64 (p_low), .int .i64 (p_high)]) Try.func56 rfl Try.ntmps56 rfl ?_
  refine CW.seq ?_
  refine CW.region ?_
  refine SeqR.d1 rfl rfl rfl (yl_assign rfl rfl ?_)
  refine SeqR.done ?_
  refine tn ?_
  refine CW.seq ?_
  refine CW.region ?_
  refine SeqR.d1 rfl rfl rfl (yl_move rfl rfl ?_)
  refine SeqR.d1 rfl rfl rfl (yl_move rfl rfl ?_)
  refine SeqR.d1 rfl rfl rfl (yl_geq rfl rfl rfl ?_)
  refine SeqR.d1 rfl rfl rfl (yl_move rfl rfl ?_)
  refine bcase (decide (p_low ≤ p_n)) (fun hb1 => ?_) (fun hb1 => ?_)
  · have hb1p := dec_t hb1
    refine SeqR.y rfl rfl rfl rfl rfl hb1 (yl_move rfl rfl ?_)
    refine SeqR.y rfl rfl rfl rfl rfl hb1 (yl_move rfl rfl ?_)
    refine SeqR.y rfl rfl rfl rfl rfl hb1 (yl_leq rfl rfl rfl ?_)
    refine SeqR.d1 rfl rfl rfl (yl_pick_t rfl rfl hb1 rfl ?_)
    refine SeqR.d1 rfl rfl rfl (yl_assign rfl rfl ?_)
    refine SeqR.done ?_
    refine tn ?_
    refine CW.ret ?_
    refine rr rfl (.cons rfl .nil) ?_
    have hM2 : (i_within p_n p_low p_high) = (decide (p_n ≤ p_high)) := by simp only [i_within, hb1, cond_true, cond_false, loopE_done, loopE_ret]
    rw [hM2]
    exact ⟨rfl, (Ex.refl w)⟩
  · have hb1p := dec_f hb1
    refine SeqR.z rfl rfl rfl rfl rfl hb1 ?_
    refine SeqR.z rfl rfl rfl rfl rfl hb1 ?_
    refine SeqR.z rfl rfl rfl rfl rfl hb1 ?_
    refine SeqR.d1 rfl rfl rfl (yl_pick_f rfl rfl hb1 rfl ?_)
    refine SeqR.d1 rfl rfl rfl (yl_assign rfl rfl ?_)
    refine SeqR.done ?_
    refine tn ?_
    refine CW.ret ?_
    refine rr rfl (.cons rfl .nil) ?_
    have hM3 : (i_within p_n p_low p_high) = (false) := by simp only [i_within, hb1, cond_true, cond_false, loopE_done, loopE_ret]
    rw [hM3]
    exact ⟨rfl, (Ex.refl w)⟩
set_option maxRecDepth 100000 in
set_option maxHeartbeats 2000000 in
theorem c_i_isStage {w : World} (p_stage : Int) : Cal Try.prog 51 #[.int .i64 (p_stage)] w fun v w' => v = .bool ((i_isStage p_stage)) ∧ Ex w w' := by
  refine Cal.of (vs := [.int .i64 (p_stage)]) Try.func51 rfl Try.ntmps51 rfl ?_
  refine CW.seq ?_
  refine CW.region ?_
  refine SeqR.d1 rfl rfl rfl (yl_assign rfl rfl ?_)
  refine SeqR.done ?_
  refine tn ?_
  refine CW.seq ?_
  refine CW.region ?_
  refine SeqR.d1 rfl rfl rfl (yl_move rfl rfl ?_)
  refine SeqR.d1 rfl rfl rfl (yl_call Try.en56 rfl (opvs_cons rfl (opvs_cons rfl (opvs_cons rfl opvs_nil))) (Cal.mono (c_i_within p_stage 0 3) ?_))
  rintro v2 w1 ⟨rfl, hE3⟩
  have hE3z := Ex.size hE3
  refine SeqR.d1 rfl rfl rfl (yl_assign rfl rfl ?_)
  refine SeqR.done ?_
  refine tn ?_
  refine CW.ret ?_
  refine rr rfl (.cons rfl .nil) ?_
  have hM4 : (i_isStage p_stage) = ((i_within p_stage 0 3)) := by simp only [i_isStage, cond_true, cond_false, loopE_done, loopE_ret]
  rw [hM4]
  have q5 := Ex.trans (Ex.refl w) hE3
  exact ⟨rfl, q5⟩
set_option maxRecDepth 100000 in
set_option maxHeartbeats 2000000 in
theorem c_i_areLetters {w : World} (p_s : Str) (p_most : Int) (o1 : okS p_s) : Cal Try.prog 120 #[.string (bs (p_s)), .int .i64 (p_most)] w fun v w' => v = .bool ((i_areLetters p_s p_most)) ∧ Ex w w' := by
  have hol2 : p_s.length ≤ 1073741824 := o1
  refine Cal.of (vs := [.string (bs (p_s)), .int .i64 (p_most)]) Try.func120 rfl Try.ntmps120 rfl ?_
  refine CW.seq ?_
  refine CW.region ?_
  refine SeqR.d1 rfl rfl rfl (yl_assign rfl rfl ?_)
  refine SeqR.done ?_
  refine tn ?_
  refine CW.seq ?_
  refine CW.seq ?_
  refine CW.region ?_
  refine SeqR.d1 rfl rfl rfl (yl_move rfl rfl ?_)
  refine SeqR.d1 rfl rfl rfl (yl_slen Try.un9 (a := p_s) rfl rfl ?_)
  refine SeqR.d1 rfl rfl rfl (yl_move rfl rfl ?_)
  refine SeqR.done ?_
  refine tn ?_
  refine CW.block ?_
  refine CW.loop (fun m4 L5 w6 => ∃ (k3 : Nat), m4 = p_s.length - k3 ∧ k3 ≤ p_s.length ∧ lkp L5 0 = some (.string (bs (p_s))) ∧ lkp L5 1 = some (.int .i64 (p_most)) ∧ lkp L5 7 = some (.int .i64 ((p_s.length : Int))) ∧ lkp L5 8 = some (.int .i64 ((k3 : Int))) ∧ Ex w w6 ∧ loopM (B_i_areLetters_0 p_s p_most) (p_s.length - k3) k3 () = loopM (B_i_areLetters_0 p_s p_most) (p_s.length - 0) 0 ()) (p_s.length - 0) ?_ ?_
  · exact ⟨0, rfl, Nat.zero_le _, rfl, rfl, rfl, rfl, (Ex.refl w), rfl⟩
  · rintro m7 L8 w9 ⟨k3, rfl, hk10, hl12, hl13, hl14, hl15, hf16, hI11⟩
    refine CW.sub (Sub.cons hl12 (Sub.cons hl13 (Sub.cons hl14 (Sub.cons hl15 (Sub.nil _))))) ?_
    have hf16z := Ex.size hf16
    have hbg17 : p_s.length ≤ 1073741824 := o1
    rcases Nat.lt_or_ge k3 p_s.length with hlt18 | hlt18
    · skip
      refine CW.seq ?_
      refine CW.region ?_
      refine SeqR.d1 rfl rfl rfl (yl_lss rfl rfl rfl ?_)
      refine SeqR.done ?_
      refine tn ?_
      refine CW.seq ?_
      refine CW.cond_t rfl (lt_t hlt18) ?_
      refine CW.skip ?_
      refine tn ?_
      refine CW.seq ?_
      refine CW.block ?_
      refine CW.seq ?_
      refine CW.region ?_
      refine SeqR.d1 rfl rfl rfl (yl_move rfl rfl ?_)
      refine SeqR.d1 rfl rfl rfl (yl_assign rfl rfl ?_)
      refine SeqR.done ?_
      refine tn ?_
      refine CW.seq ?_
      refine CW.region ?_
      refine SeqR.d1 rfl rfl rfl (yl_move rfl rfl ?_)
      refine SeqR.d1 rfl rfl rfl (yl_move rfl rfl ?_)
      refine SeqR.d1 rfl rfl rfl (yl_sindexN Try.un9 (a := p_s) rfl rfl rfl (by first | omega | assumption | (simp only [IntKind.wrap_i64] at *; omega)) ?_)
      refine SeqR.d1 rfl rfl rfl (yl_lss rfl rfl rfl ?_)
      refine SeqR.d1 rfl rfl rfl (yl_move rfl rfl ?_)
      refine bcase (decide (((p_s.getD k3 0).toNat : Int) < 97)) (fun hb19 => ?_) (fun hb19 => ?_)
      · have hb19p := dec_t hb19
        refine SeqR.z rfl rfl rfl rfl rfl hb19 ?_
        refine SeqR.z rfl rfl rfl rfl rfl hb19 ?_
        refine SeqR.z rfl rfl rfl rfl rfl hb19 ?_
        refine SeqR.z rfl rfl rfl rfl rfl hb19 ?_
        refine SeqR.d1 rfl rfl rfl (yl_pick_t rfl rfl hb19 rfl ?_)
        refine SeqR.done ?_
        refine tn ?_
        refine CW.cond_t rfl rfl ?_
        refine CW.seq ?_
        refine CW.region ?_
        refine SeqR.d1 rfl rfl rfl (yl_assign rfl rfl ?_)
        refine SeqR.done ?_
        refine tn ?_
        refine CW.ret ?_
        refine br ?_
        refine tr ?_
        refine tr ?_
        have hB21 : B_i_areLetters_0 p_s p_most k3 () = .ret false := by simp only [B_i_areLetters_0, hb19, cond_true, cond_false, loopE_done, loopE_ret]
        have hL20 : loopM (B_i_areLetters_0 p_s p_most) (p_s.length - 0) 0 () = .ret false := hI11.symm.trans (loopM.ret hlt18 hB21)
        refine br ?_
        refine tr ?_
        refine rr rfl (.cons rfl .nil) ?_
        have hM22 : (i_areLetters p_s p_most) = (false) := by simp only [i_areLetters, hb19, hL20, cond_true, cond_false, loopE_done, loopE_ret]
        rw [hM22]
        exact ⟨rfl, hf16⟩
      · have hb19p := dec_f hb19
        refine SeqR.y rfl rfl rfl rfl rfl hb19 (yl_move rfl rfl ?_)
        refine SeqR.y rfl rfl rfl rfl rfl hb19 (yl_move rfl rfl ?_)
        refine SeqR.y rfl rfl rfl rfl rfl hb19 (yl_sindexN Try.un9 (a := p_s) rfl rfl rfl (by first | omega | assumption | (simp only [IntKind.wrap_i64] at *; omega)) ?_)
        refine SeqR.y rfl rfl rfl rfl rfl hb19 (yl_gtr rfl rfl rfl ?_)
        refine SeqR.d1 rfl rfl rfl (yl_pick_f rfl rfl hb19 rfl ?_)
        refine SeqR.done ?_
        refine tn ?_
        refine bcase (decide (122 < ((p_s.getD k3 0).toNat : Int))) (fun hb23 => ?_) (fun hb23 => ?_)
        · have hb23p := dec_t hb23
          refine CW.cond_t rfl hb23 ?_
          refine CW.seq ?_
          refine CW.region ?_
          refine SeqR.d1 rfl rfl rfl (yl_assign rfl rfl ?_)
          refine SeqR.done ?_
          refine tn ?_
          refine CW.ret ?_
          refine br ?_
          refine tr ?_
          refine tr ?_
          have hB25 : B_i_areLetters_0 p_s p_most k3 () = .ret false := by simp only [B_i_areLetters_0, hb19, hb23, cond_true, cond_false, loopE_done, loopE_ret]
          have hL24 : loopM (B_i_areLetters_0 p_s p_most) (p_s.length - 0) 0 () = .ret false := hI11.symm.trans (loopM.ret hlt18 hB25)
          refine br ?_
          refine tr ?_
          refine rr rfl (.cons rfl .nil) ?_
          have hM26 : (i_areLetters p_s p_most) = (false) := by simp only [i_areLetters, hb19, hb23, hL24, cond_true, cond_false, loopE_done, loopE_ret]
          rw [hM26]
          exact ⟨rfl, hf16⟩
        · have hb23p := dec_f hb23
          refine CW.cond_f rfl hb23 ?_
          refine CW.skip ?_
          refine bn ?_
          refine tn ?_
          refine CW.region ?_
          refine SeqR.d1 rfl rfl rfl (yl_inc rfl rfl rfl (by omega) ?_)
          refine SeqR.d1 rfl rfl rfl (yl_move rfl rfl ?_)
          refine SeqR.done ?_
          refine tn ?_
          have hB27 : B_i_areLetters_0 p_s p_most k3 () = .cont () := by simp only [B_i_areLetters_0, hb19, hb23, cond_true, cond_false, loopE_done, loopE_ret]
          exact ⟨p_s.length - (k3 + 1), by omega, k3 + 1, rfl, hlt18, rfl, rfl, rfl, rfl, hf16, (loopM.cont hlt18 hB27).symm.trans hI11⟩
    · skip
      refine CW.seq ?_
      refine CW.region ?_
      refine SeqR.d1 rfl rfl rfl (yl_lss rfl rfl rfl ?_)
      refine SeqR.done ?_
      refine tn ?_
      refine CW.seq ?_
      refine CW.cond_f rfl (lt_f hlt18) ?_
      refine CW.exit ?_
      refine tx ?_
      refine tx ?_
      have hL28 : loopM (B_i_areLetters_0 p_s p_most) (p_s.length - 0) 0 () = .done () := hI11.symm.trans (loopM.stop hlt18)
      refine bx ?_
      refine tn ?_
      refine CW.seq ?_
      refine CW.region ?_
      refine SeqR.d1 rfl rfl rfl (yl_move rfl rfl ?_)
      refine SeqR.d1 rfl rfl rfl (yl_slen Try.un9 (a := p_s) rfl rfl ?_)
      refine SeqR.d1 rfl rfl rfl (yl_move rfl rfl ?_)
      refine SeqR.d1 rfl rfl rfl (yl_call Try.en56 rfl (opvs_cons rfl (opvs_cons rfl (opvs_cons rfl opvs_nil))) (Cal.mono (c_i_within (p_s.length : Int) 1 p_most) ?_))
      rintro v30 w29 ⟨rfl, hE31⟩
      have hE31z := Ex.size hE31
      refine SeqR.d1 rfl rfl rfl (yl_assign rfl rfl ?_)
      refine SeqR.done ?_
      refine tn ?_
      refine CW.ret ?_
      refine rr rfl (.cons rfl .nil) ?_
      have hM32 : (i_areLetters p_s p_most) = ((i_within (p_s.length : Int) 1 p_most)) := by simp only [i_areLetters, hL28, cond_true, cond_false, loopE_done, loopE_ret]
      rw [hM32]
      have q33 := Ex.trans hf16 hE31
      exact ⟨rfl, q33⟩
set_option maxRecDepth 100000 in
set_option maxHeartbeats 2000000 in
theorem c_g_slices_Index_string {A1 : Option Addr} {c1 : Nat} {w : World} (p_s : List Str) (p_v : Str) (h1 : RdS w (Iv 0 w.heap.size) (RF e_Str) 1 A1 p_s.length c1 p_s) (o2 : (okL okS) p_s) (o3 : okS p_v) : Cal Try.prog 135 #[.slice A1 p_s.length c1, .string (bs (p_v))] w fun v w' => v = .int .i64 ((g_slices_Index_string p_s p_v)) ∧ Ex w w' := by
  have hol4 := o2.1
  have hol5 : p_v.length ≤ 1073741824 := o3
  refine Cal.of (vs := [.slice A1 p_s.length c1, .string (bs (p_v))]) Try.func135 rfl Try.ntmps135 rfl ?_
  refine CW.seq ?_
  refine CW.region ?_
  refine SeqR.d1 rfl rfl rfl (yl_assign rfl rfl ?_)
  refine SeqR.done ?_
  refine tn ?_
  refine CW.seq ?_
  refine CW.seq ?_
  refine CW.region ?_
  refine SeqR.d1 rfl rfl rfl (yl_move rfl rfl ?_)
  refine SeqR.d1 rfl rfl rfl (yl_len Try.un73 rfl rfl ?_)
  refine SeqR.d1 rfl rfl rfl (yl_move rfl rfl ?_)
  refine SeqR.done ?_
  refine tn ?_
  refine CW.block ?_
  refine CW.loop (fun m7 L8 w9 => ∃ (k6 : Nat), m7 = p_s.length - k6 ∧ k6 ≤ p_s.length ∧ lkp L8 0 = some (.slice A1 p_s.length c1) ∧ lkp L8 1 = some (.string (bs (p_v))) ∧ lkp L8 7 = some (.int .i64 ((p_s.length : Int))) ∧ lkp L8 8 = some (.int .i64 ((k6 : Int))) ∧ RdS w9 (Iv 0 w.heap.size) (RF e_Str) 1 A1 p_s.length c1 p_s ∧ Ex w w9 ∧ loopM (B_g_slices_Index_string_0 p_s p_v) (p_s.length - k6) k6 () = loopM (B_g_slices_Index_string_0 p_s p_v) (p_s.length - 0) 0 ()) (p_s.length - 0) ?_ ?_
  · exact ⟨0, rfl, Nat.zero_le _, rfl, rfl, rfl, rfl, h1, (Ex.refl w), rfl⟩
  · rintro m10 L11 w12 ⟨k6, rfl, hk13, hl15, hl16, hl17, hl18, hf19, hf20, hI14⟩
    refine CW.sub (Sub.cons hl15 (Sub.cons hl16 (Sub.cons hl17 (Sub.cons hl18 (Sub.nil _))))) ?_
    have hf20z := Ex.size hf20
    have hbg21 := RdS.big hf19
    rcases Nat.lt_or_ge k6 p_s.length with hlt22 | hlt22
    · skip
      refine CW.seq ?_
      refine CW.region ?_
      refine SeqR.d1 rfl rfl rfl (yl_lss rfl rfl rfl ?_)
      refine SeqR.done ?_
      refine tn ?_
      refine CW.seq ?_
      refine CW.cond_t rfl (lt_t hlt22) ?_
      refine CW.skip ?_
      refine tn ?_
      refine CW.seq ?_
      refine CW.block ?_
      refine CW.seq ?_
      refine CW.region ?_
      refine SeqR.d1 rfl rfl rfl (yl_move rfl rfl ?_)
      refine SeqR.d1 rfl rfl rfl (yl_assign rfl rfl ?_)
      refine SeqR.done ?_
      refine tn ?_
      refine CW.seq ?_
      refine CW.region ?_
      refine SeqR.d1 rfl rfl rfl (yl_move rfl rfl ?_)
      refine SeqR.d1 rfl rfl rfl (yl_move rfl rfl ?_)
      refine SeqR.d1 rfl rfl rfl (yl_move rfl rfl ?_)
      obtain ⟨eb23, eo23, ec23, eA23, eS23, ebl23, el23, eR23, eC23⟩ := RdS.atD hf19 d_Str (i := k6) (by first | omega | assumption)
      obtain rfl := eR23
      have eC23 : Cells w12 eb23 (eo23 + k6 * 1) [.string (bs ((p_s.getD k6 d_Str)))] := eC23
      refine SeqR.d1 rfl rfl rfl (yl_indexAddrN Try.un73 Try.ty9 rfl rfl rfl eA23 (by first | omega | assumption | (simp only [IntKind.wrap_i64] at *; omega)) ?_)
      refine SeqR.d1 rfl rfl rfl (yl_load1 Try.ty9 rfl rfl (eC23 0 _ rfl) ?_)
      refine SeqR.d1 rfl rfl rfl (yl_seql (a := p_v) (b := (p_s.getD k6 d_Str)) rfl rfl rfl ?_)
      refine SeqR.done ?_
      refine tn ?_
      refine bcase (p_v == (p_s.getD k6 d_Str)) (fun hb24 => ?_) (fun hb24 => ?_)
      · skip
        refine CW.cond_t rfl hb24 ?_
        refine CW.seq ?_
        refine CW.region ?_
        refine SeqR.d1 rfl rfl rfl (yl_move rfl rfl ?_)
        refine SeqR.d1 rfl rfl rfl (yl_assign rfl rfl ?_)
        refine SeqR.done ?_
        refine tn ?_
        refine CW.ret ?_
        refine br ?_
        refine tr ?_
        refine tr ?_
        have hB26 : B_g_slices_Index_string_0 p_s p_v k6 () = .ret (k6 : Int) := by simp only [B_g_slices_Index_string_0, hb24, cond_true, cond_false, loopE_done, loopE_ret]
        have hL25 : loopM (B_g_slices_Index_string_0 p_s p_v) (p_s.length - 0) 0 () = .ret (k6 : Int) := hI14.symm.trans (loopM.ret hlt22 hB26)
        refine br ?_
        refine tr ?_
        refine rr rfl (.cons rfl .nil) ?_
        have hM27 : (g_slices_Index_string p_s p_v) = ((k6 : Int)) := by simp only [g_slices_Index_string, hb24, hL25, cond_true, cond_false, loopE_done, loopE_ret]
        rw [hM27]
        exact ⟨rfl, hf20⟩
      · skip
        refine CW.cond_f rfl hb24 ?_
        refine CW.skip ?_
        refine bn ?_
        refine tn ?_
        refine CW.region ?_
        refine SeqR.d1 rfl rfl rfl (yl_inc rfl rfl rfl (by omega) ?_)
        refine SeqR.d1 rfl rfl rfl (yl_move rfl rfl ?_)
        refine SeqR.done ?_
        refine tn ?_
        have hB28 : B_g_slices_Index_string_0 p_s p_v k6 () = .cont () := by simp only [B_g_slices_Index_string_0, hb24, cond_true, cond_false, loopE_done, loopE_ret]
        exact ⟨p_s.length - (k6 + 1), by omega, k6 + 1, rfl, hlt22, rfl, rfl, rfl, rfl, hf19, hf20, (loopM.cont hlt22 hB28).symm.trans hI14⟩
    · skip
      refine CW.seq ?_
      refine CW.region ?_
      refine SeqR.d1 rfl rfl rfl (yl_lss rfl rfl rfl ?_)
      refine SeqR.done ?_
      refine tn ?_
      refine CW.seq ?_
      refine CW.cond_f rfl (lt_f hlt22) ?_
      refine CW.exit ?_
      refine tx ?_
      refine tx ?_
      have hL29 : loopM (B_g_slices_Index_string_0 p_s p_v) (p_s.length - 0) 0 () = .done () := hI14.symm.trans (loopM.stop hlt22)
      refine bx ?_
      refine tn ?_
      refine CW.seq ?_
      refine CW.region ?_
      refine SeqR.d1 rfl rfl rfl (yl_assign rfl rfl ?_)
      refine SeqR.done ?_
      refine tn ?_
      refine CW.ret ?_
      refine rr rfl (.cons rfl .nil) ?_
      have hM30 : (g_slices_Index_string p_s p_v) = (-1) := by simp only [g_slices_Index_string, hL29, cond_true, cond_false, loopE_done, loopE_ret]
      rw [hM30]
      exact ⟨rfl, hf20⟩
set_option maxRecDepth 100000 in
set_option maxHeartbeats 2000000 in
theorem c_g_slices_Contains_string {A1 : Option Addr} {c1 : Nat} {w : World} (p_s : List Str) (p_v : Str) (h1 : RdS w (Iv 0 w.heap.size) (RF e_Str) 1 A1 p_s.length c1 p_s) (o2 : (okL okS) p_s) (o3 : okS p_v) : Cal Try.prog 121 #[.slice A1 p_s.length c1, .string (bs (p_v))] w fun v w' => v = .bool ((g_slices_Contains_string p_s p_v)) ∧ Ex w w' := by
  have hol4 := o2.1
  have hol5 : p_v.length ≤ 1073741824 := o3
  refine Cal.of (vs := [.slice A1 p_s.length c1, .string (bs (p_v))]) Try.func121 rfl Try.ntmps121 rfl ?_
  refine CW.seq ?_
  refine CW.region ?_
  refine SeqR.d1 rfl rfl rfl (yl_assign rfl rfl ?_)
  refine SeqR.done ?_
  refine tn ?_
  refine CW.seq ?_
  refine CW.region ?_
  refine SeqR.d1 rfl rfl rfl (yl_move rfl rfl ?_)
  refine SeqR.d1 rfl rfl rfl (yl_move rfl rfl ?_)
  refine SeqR.d1 rfl rfl rfl (yl_call Try.en135 rfl (opvs_cons rfl (opvs_cons rfl opvs_nil)) (Cal.mono (c_g_slices_Index_string p_s p_v (RdS.up h1 good_Str) o2 o3) ?_))
  rintro v7 w6 ⟨rfl, hE8⟩
  have hE8z := Ex.size hE8
  refine SeqR.d1 rfl rfl rfl (yl_geq rfl rfl rfl ?_)
  refine SeqR.d1 rfl rfl rfl (yl_assign rfl rfl ?_)
  refine SeqR.done ?_
  refine tn ?_
  refine CW.ret ?_
  refine rr rfl (.cons rfl .nil) ?_
  have hM9 : (g_slices_Contains_string p_s p_v) = (decide (0 ≤ (g_slices_Index_string p_s p_v))) := by simp only [g_slices_Contains_string, cond_true, cond_false, loopE_done, loopE_ret]
  rw [hM9]
  have q10 := Ex.trans (Ex.refl w) hE8
  exact ⟨rfl, q10⟩
end Go.Proofs.Ytnfjabkdlkejkaa
