/- Good Stmt: what each call returns, part 2. -/
import Derived.Test.YtmlfbjlkccnpmaaGoodStmtC1
set_option linter.unusedVariables false
set_option linter.unusedSimpArgs false
namespace Go.Proofs.Ytmlfbjlkccnpmaa
open Go.RowKit Go.X
set_option maxRecDepth 100000 in
set_option maxHeartbeats 2000000 in
theorem c_s_l3Bytes {w : World} (p_s : Str) (p_more : Str) (o1 : okS p_s) (o2 : okS p_more) : Cal Try.prog 189 #[.string (bs (p_s)), .string (bs (p_more))] w fun v w' => v = .bool ((s_l3Bytes p_s p_more)) ∧ Ex w w' := by
  have hol3 : p_s.length ≤ 1073741824 := o1
  have hol4 : p_more.length ≤ 1073741824 := o2
  refine Cal.of (vs := [.string (bs (p_s)), .string (bs (p_more))]) Try.func189 rfl Try.ntmps189 rfl ?_
  refine CW.seq ?_
  refine CW.region ?_
  refine SeqR.d1 rfl rfl rfl (yl_assign rfl rfl ?_)
  refine SeqR.done ?_
  refine tn ?_
  refine CW.seq ?_
  refine CW.seq ?_
  refine CW.region ?_
  refine SeqR.d1 rfl rfl rfl (yl_assign rfl rfl ?_)
  refine SeqR.done ?_
  refine tn ?_
  refine CW.block ?_
  refine CW.loop (fun m6 L7 w8 => ∃ (k5 : Nat), m6 = p_s.length - k5 ∧ k5 ≤ p_s.length ∧ w.heap.size ≤ w8.heap.size ∧ lkp L7 0 = some (.string (bs (p_s))) ∧ lkp L7 1 = some (.string (bs (p_more))) ∧ lkp L7 5 = some (.int .i64 ((k5 : Int))) ∧ Ex w w8 ∧ loopM (B_s_l3Bytes_0 p_s p_more) (p_s.length - k5) k5 () = loopM (B_s_l3Bytes_0 p_s p_more) (p_s.length - 0) 0 ()) (p_s.length - 0) ?_ ?_
  · exact ⟨0, rfl, (by omega), Nat.le_refl _, rfl, rfl, rfl, (Ex.refl w), rfl⟩
  · rintro m9 L10 w11 ⟨k5, rfl, hk12, hsz14, hl15, hl16, hl17, hf18, hI13⟩
    refine CW.sub (Sub.cons hl15 (Sub.cons hl16 (Sub.cons hl17 (Sub.nil _)))) ?_
    have hf18z := Ex.size hf18
    have hbg19 : p_s.length ≤ 1073741824 := o1
    rcases Nat.lt_or_ge k5 p_s.length with hlt20 | hlt20
    · skip
      refine CW.seq ?_
      refine CW.seq ?_
      refine CW.region ?_
      refine SeqR.d1 rfl rfl rfl (yl_move rfl rfl ?_)
      refine SeqR.d1 rfl rfl rfl (yl_move rfl rfl ?_)
      refine SeqR.d1 rfl rfl rfl (yl_slen Try.un9 (a := p_s) rfl rfl ?_)
      refine SeqR.d1 rfl rfl rfl (yl_lss rfl rfl rfl ?_)
      refine SeqR.done ?_
      refine tn ?_
      refine CW.cond_t rfl (lt_t hlt20) ?_
      refine CW.skip ?_
      refine tn ?_
      refine CW.seq ?_
      refine CW.block ?_
      refine CW.seq ?_
      refine CW.region ?_
      refine SeqR.d1 rfl rfl rfl (yl_move rfl rfl ?_)
      refine SeqR.d1 rfl rfl rfl (yl_move rfl rfl ?_)
      refine SeqR.d1 rfl rfl rfl (yl_sindexN Try.un9 (a := p_s) rfl rfl rfl (by first | omega | assumption | (simp only [IntKind.wrap_i64] at *; omega)) ?_)
      refine SeqR.d1 rfl rfl rfl (yl_geq rfl rfl rfl ?_)
      refine SeqR.d1 rfl rfl rfl (yl_move rfl rfl ?_)
      refine bcase (decide (97 ≤ ((p_s.getD k5 0).toNat : Int))) (fun hb21 => ?_) (fun hb21 => ?_)
      · have hb21p := dec_t hb21
        refine SeqR.y rfl rfl rfl rfl rfl hb21 (yl_move rfl rfl ?_)
        refine SeqR.y rfl rfl rfl rfl rfl hb21 (yl_move rfl rfl ?_)
        refine SeqR.y rfl rfl rfl rfl rfl hb21 (yl_sindexN Try.un9 (a := p_s) rfl rfl rfl (by first | omega | assumption | (simp only [IntKind.wrap_i64] at *; omega)) ?_)
        refine SeqR.y rfl rfl rfl rfl rfl hb21 (yl_leq rfl rfl rfl ?_)
        refine SeqR.d1 rfl rfl rfl (yl_pick_t rfl rfl hb21 rfl ?_)
        refine SeqR.d1 rfl rfl rfl (yl_move rfl rfl ?_)
        refine bcase (decide (((p_s.getD k5 0).toNat : Int) ≤ 122)) (fun hb22 => ?_) (fun hb22 => ?_)
        · have hb22p := dec_t hb22
          refine SeqR.z rfl rfl rfl rfl rfl hb22 ?_
          refine SeqR.z rfl rfl rfl rfl rfl hb22 ?_
          refine SeqR.z rfl rfl rfl rfl rfl hb22 ?_
          refine SeqR.z rfl rfl rfl rfl rfl hb22 ?_
          refine SeqR.z rfl rfl rfl rfl rfl hb22 ?_
          refine SeqR.q rfl rfl rfl rfl rfl ?_
          refine SeqR.q rfl rfl rfl rfl rfl ?_
          refine SeqR.q rfl rfl rfl rfl rfl ?_
          refine SeqR.q rfl rfl rfl rfl rfl ?_
          refine SeqR.z rfl rfl rfl rfl rfl hb22 ?_
          refine SeqR.d1 rfl rfl rfl (yl_pick_t rfl rfl hb22 rfl ?_)
          refine SeqR.d1 rfl rfl rfl (yl_assign rfl rfl ?_)
          refine SeqR.done ?_
          refine tn ?_
          refine CW.seq ?_
          refine CW.seq ?_
          refine CW.region ?_
          refine SeqR.d1 rfl rfl rfl (yl_assign rfl rfl ?_)
          refine SeqR.done ?_
          refine tn ?_
          refine CW.block ?_
          refine CW.loop (fun m25 L26 w27 => ∃ (k23 : Nat) (x24 : Bool), m25 = p_more.length - k23 ∧ k23 ≤ p_more.length ∧ w11.heap.size ≤ w27.heap.size ∧ lkp L26 0 = some (.string (bs (p_s))) ∧ lkp L26 1 = some (.string (bs (p_more))) ∧ lkp L26 5 = some (.int .i64 ((k5 : Int))) ∧ lkp L26 6 = some (.bool (x24)) ∧ lkp L26 7 = some (.int .i64 ((k23 : Int))) ∧ lkp L26 19 = some (.string (bs (p_s))) ∧ lkp L26 20 = some (.int .i64 ((k5 : Int))) ∧ lkp L26 21 = some (.int .u8 (((p_s.getD k5 0).toNat : Int))) ∧ lkp L26 22 = some (.bool (decide (((p_s.getD k5 0).toNat : Int) ≤ 122))) ∧ lkp L26 25 = some (undef) ∧ lkp L26 26 = some (undef) ∧ lkp L26 27 = some (undef) ∧ lkp L26 28 = some (undef) ∧ lkp L26 29 = some (undef) ∧ lkp L26 30 = some (undef) ∧ lkp L26 31 = some (undef) ∧ lkp L26 32 = some (undef) ∧ lkp L26 33 = some (undef) ∧ lkp L26 34 = some (undef) ∧ Ex w w27 ∧ loopM (B_s_l3Bytes_1 p_s p_more k5) (p_more.length - k23) k23 (x24) = loopM (B_s_l3Bytes_1 p_s p_more k5) (p_more.length - 0) 0 (true)) (p_more.length - 0) ?_ ?_
          · exact ⟨0, true, rfl, (by omega), Nat.le_refl _, rfl, rfl, rfl, rfl, rfl, rfl, rfl, rfl, rfl, rfl, rfl, rfl, rfl, rfl, rfl, rfl, rfl, rfl, rfl, hf18, rfl⟩
          · rintro m28 L29 w30 ⟨k23, x24, rfl, hk31, hsz33, hl34, hl35, hl36, hl37, hl38, hl39, hl40, hl41, hl42, hl43, hl44, hl45, hl46, hl47, hl48, hl49, hl50, hl51, hl52, hf53, hI32⟩
            refine CW.sub (Sub.cons hl34 (Sub.cons hl35 (Sub.cons hl36 (Sub.cons hl37 (Sub.cons hl38 (Sub.cons hl39 (Sub.cons hl40 (Sub.cons hl41 (Sub.cons hl42 (Sub.cons hl43 (Sub.cons hl44 (Sub.cons hl45 (Sub.cons hl46 (Sub.cons hl47 (Sub.cons hl48 (Sub.cons hl49 (Sub.cons hl50 (Sub.cons hl51 (Sub.cons hl52 (Sub.nil _)))))))))))))))))))) ?_
            have hf53z := Ex.size hf53
            have hbg54 : p_more.length ≤ 1073741824 := o2
            rcases Nat.lt_or_ge k23 p_more.length with hlt55 | hlt55
            · skip
              refine CW.seq ?_
              refine CW.seq ?_
              refine CW.region ?_
              refine SeqR.d1 rfl rfl rfl (yl_move rfl rfl ?_)
              refine SeqR.d1 rfl rfl rfl (yl_move rfl rfl ?_)
              refine SeqR.d1 rfl rfl rfl (yl_slen Try.un9 (a := p_more) rfl rfl ?_)
              refine SeqR.d1 rfl rfl rfl (yl_lss rfl rfl rfl ?_)
              refine SeqR.done ?_
              refine tn ?_
              refine CW.cond_t rfl (lt_t hlt55) ?_
              refine CW.skip ?_
              refine tn ?_
              refine CW.seq ?_
              refine CW.block ?_
              refine bcase (x24) (fun hb56 => ?_) (fun hb56 => ?_)
              · skip
                refine CW.drawsI 11 (vgetI [DetI (.bool (x24)), DetI (.bool (x24)), DetI (undef), DetI (undef), DetI (undef), DetI (undef), DetI (undef), DetI (undef), DetI (undef), DetI (.bool (true)), DetI (.bool (true))]) Try.follows rfl rfl rfl rfl rfl rfl (vgetI_stable ⟨StableI.det _, StableI.det _, StableI.det _, StableI.det _, StableI.det _, StableI.det _, StableI.det _, StableI.det _, StableI.det _, StableI.det _, StableI.det _, trivial⟩) ⟨?_, ?_, ?_, ?_, ?_, ?_, ?_, ?_, ?_, ?_, ?_, trivial⟩ ?_
                · intro L57 w58 hi59
                  have hE60 := hi59.ex
                  have hE60z := Ex.size hE60
                  have hx61 := hi59.old 6 _ rfl rfl
                  exact OpR.op' rfl (Yl.sameI (yl_move rfl hx61 ⟨fun _ _ => rfl, rfl⟩))
                · intro L62 w63 hi64
                  have hE65 := hi64.ex
                  have hE65z := Ex.size hE65
                  obtain ⟨_, _, _, hx66, -, -, -, rfl⟩ := hi64.dep 0 42 rfl rfl
                  exact OpR.op' rfl (Yl.sameI (yl_move rfl hx66 ⟨fun _ _ => rfl, rfl⟩))
                · intro L67 w68 hi69
                  have hE70 := hi69.ex
                  have hE70z := Ex.size hE70
                  obtain ⟨_, _, _, hx71, -, -, -, rfl⟩ := hi69.dep 1 43 rfl rfl
                  exact OpR.skip rfl rfl hx71 hb56 ⟨rfl, Ex.refl _⟩
                · intro L72 w73 hi74
                  have hE75 := hi74.ex
                  have hE75z := Ex.size hE75
                  obtain ⟨_, _, _, hx76, -, -, -, rfl⟩ := hi74.dep 1 43 rfl rfl
                  exact OpR.skip rfl rfl hx76 hb56 ⟨rfl, Ex.refl _⟩
                · intro L77 w78 hi79
                  have hE80 := hi79.ex
                  have hE80z := Ex.size hE80
                  obtain ⟨_, _, _, hx81, -, -, -, rfl⟩ := hi79.dep 1 43 rfl rfl
                  exact OpR.skip rfl rfl hx81 hb56 ⟨rfl, Ex.refl _⟩
                · intro L82 w83 hi84
                  have hE85 := hi84.ex
                  have hE85z := Ex.size hE85
                  obtain ⟨_, _, _, hx86, -, -, -, rfl⟩ := hi84.dep 1 43 rfl rfl
                  exact OpR.skip rfl rfl hx86 hb56 ⟨rfl, Ex.refl _⟩
                · intro L87 w88 hi89
                  have hE90 := hi89.ex
                  have hE90z := Ex.size hE90
                  obtain ⟨_, _, _, hx91, -, -, -, rfl⟩ := hi89.dep 1 43 rfl rfl
                  exact OpR.skip rfl rfl hx91 hb56 ⟨rfl, Ex.refl _⟩
                · intro L92 w93 hi94
                  have hE95 := hi94.ex
                  have hE95z := Ex.size hE95
                  obtain ⟨_, _, _, hx96, -, -, -, rfl⟩ := hi94.dep 1 43 rfl rfl
                  exact OpR.skip rfl rfl hx96 hb56 ⟨rfl, Ex.refl _⟩
                · intro L97 w98 hi99
                  have hE100 := hi99.ex
                  have hE100z := Ex.size hE100
                  obtain ⟨_, _, _, hx101, -, -, -, rfl⟩ := hi99.dep 1 43 rfl rfl
                  exact OpR.skip rfl rfl hx101 hb56 ⟨rfl, Ex.refl _⟩
                · intro L102 w103 hi104
                  have hE105 := hi104.ex
                  have hE105z := Ex.size hE105
                  obtain ⟨_, _, _, hx106, -, -, -, rfl⟩ := hi104.dep 8 50 rfl rfl
                  obtain ⟨_, _, _, hx107, -, -, -, rfl⟩ := hi104.dep 1 43 rfl rfl
                  exact OpR.op' rfl (Yl.sameI (yl_pick_t rfl hx107 hb56 rfl ⟨fun _ _ => rfl, rfl⟩))
                · intro L108 w109 hi110
                  have hE111 := hi110.ex
                  have hE111z := Ex.size hE111
                  obtain ⟨_, _, _, hx112, -, -, -, rfl⟩ := hi110.dep 9 51 rfl rfl
                  exact OpR.op' rfl (Yl.sameI (yl_assign rfl hx112 ⟨fun _ _ => rfl, rfl⟩))
                · intro fl116 fh117 L113 w114 hp115
                  have hE118 := hp115.ex
                  have hE118z := Ex.size hE118
                  have hx119 := hp115.old 0 _ rfl rfl
                  have hx120 := hp115.old 1 _ rfl rfl
                  have hx121 := hp115.old 5 _ rfl rfl
                  have hx122 := hp115.old 7 _ rfl rfl
                  have hx123 := hp115.old 19 _ rfl rfl
                  have hx124 := hp115.old 20 _ rfl rfl
                  have hx125 := hp115.old 21 _ rfl rfl
                  have hx126 := hp115.old 22 _ rfl rfl
                  have hx127 := hp115.old 25 _ rfl rfl
                  have hx128 := hp115.old 26 _ rfl rfl
                  have hx129 := hp115.old 27 _ rfl rfl
                  have hx130 := hp115.old 28 _ rfl rfl
                  have hx131 := hp115.old 29 _ rfl rfl
                  have hx132 := hp115.old 30 _ rfl rfl
                  have hx133 := hp115.old 31 _ rfl rfl
                  have hx134 := hp115.old 32 _ rfl rfl
                  have hx135 := hp115.old 33 _ rfl rfl
                  have hx136 := hp115.old 34 _ rfl rfl
                  obtain ⟨_, hx137, rfl⟩ := hp115.new 2 44 rfl rfl
                  obtain ⟨_, hx138, rfl⟩ := hp115.new 3 45 rfl rfl
                  obtain ⟨_, hx139, rfl⟩ := hp115.new 4 46 rfl rfl
                  obtain ⟨_, hx140, rfl⟩ := hp115.new 5 47 rfl rfl
                  obtain ⟨_, hx141, rfl⟩ := hp115.new 6 48 rfl rfl
                  obtain ⟨_, hx142, rfl⟩ := hp115.new 7 49 rfl rfl
                  obtain ⟨_, hx143, rfl⟩ := hp115.new 8 50 rfl rfl
                  obtain ⟨_, hx144, rfl⟩ := hp115.new 10 6 rfl rfl
                  refine SeqR.done ?_
                  refine bn ?_
                  refine tn ?_
                  refine CW.sub (Sub.cons (d := 0) hx119 (Sub.cons (d := 1) hx120 (Sub.cons (d := 5) hx121 (Sub.cons (d := 6) hx144 (Sub.cons (d := 7) hx122 (Sub.cons (d := 19) hx123 (Sub.cons (d := 20) hx124 (Sub.cons (d := 21) hx125 (Sub.cons (d := 22) hx126 (Sub.cons (d := 25) hx127 (Sub.cons (d := 26) hx128 (Sub.cons (d := 27) hx129 (Sub.cons (d := 28) hx130 (Sub.cons (d := 29) hx131 (Sub.cons (d := 30) hx132 (Sub.cons (d := 31) hx133 (Sub.cons (d := 32) hx134 (Sub.cons (d := 33) hx135 (Sub.cons (d := 34) hx136 (Sub.cons (d := 44) hx137 (Sub.cons (d := 45) hx138 (Sub.cons (d := 46) hx139 (Sub.cons (d := 47) hx140 (Sub.cons (d := 48) hx141 (Sub.cons (d := 49) hx142 (Sub.cons (d := 50) hx143 (Sub.nil _))))))))))))))))))))))))))) ?_
                  refine CW.region ?_
                  refine SeqR.d1 rfl rfl rfl (yl_move rfl rfl ?_)
                  refine SeqR.d1 rfl rfl rfl (yl_inc rfl rfl rfl (by omega) ?_)
                  refine SeqR.d1 rfl rfl rfl (yl_assign rfl rfl ?_)
                  refine SeqR.done ?_
                  refine tn ?_
                  have hB145 : B_s_l3Bytes_1 p_s p_more k5 k23 (x24) = .cont (true) := by simp only [B_s_l3Bytes_1, hb21, hb22, hb56, cond_true, cond_false, loopE_done, loopE_ret]
                  have q146 := Ex.trans hf53 hE118
                  exact ⟨p_more.length - (k23 + 1), by omega, k23 + 1, true, rfl, hlt55, (by omega), rfl, rfl, rfl, rfl, rfl, rfl, rfl, rfl, rfl, rfl, rfl, rfl, rfl, rfl, rfl, rfl, rfl, rfl, rfl, q146, (loopM.cont hlt55 hB145).symm.trans hI32⟩
              · skip
                refine CW.drawsI 11 (vgetI [DetI (.bool (x24)), DetI (.bool (x24)), DetI (.string (bs (p_s))), DetI (.int .i64 ((k5 : Int))), DetI (.int .u8 (((p_s.getD k5 0).toNat : Int))), DetI (.string (bs (p_more))), DetI (.int .i64 ((k23 : Int))), DetI (.int .u8 (((p_more.getD k23 0).toNat : Int))), DetI (.bool (decide (((p_s.getD k5 0).toNat : Int) = ((p_more.getD k23 0).toNat : Int)))), DetI (.bool (decide (((p_s.getD k5 0).toNat : Int) = ((p_more.getD k23 0).toNat : Int)))), DetI (.bool (decide (((p_s.getD k5 0).toNat : Int) = ((p_more.getD k23 0).toNat : Int))))]) Try.follows rfl rfl rfl rfl rfl rfl (vgetI_stable ⟨StableI.det _, StableI.det _, StableI.det _, StableI.det _, StableI.det _, StableI.det _, StableI.det _, StableI.det _, StableI.det _, StableI.det _, StableI.det _, trivial⟩) ⟨?_, ?_, ?_, ?_, ?_, ?_, ?_, ?_, ?_, ?_, ?_, trivial⟩ ?_
                · intro L147 w148 hi149
                  have hE150 := hi149.ex
                  have hE150z := Ex.size hE150
                  have hx151 := hi149.old 6 _ rfl rfl
                  exact OpR.op' rfl (Yl.sameI (yl_move rfl hx151 ⟨fun _ _ => rfl, rfl⟩))
                · intro L152 w153 hi154
                  have hE155 := hi154.ex
                  have hE155z := Ex.size hE155
                  obtain ⟨_, _, _, hx156, -, -, -, rfl⟩ := hi154.dep 0 42 rfl rfl
                  exact OpR.op' rfl (Yl.sameI (yl_move rfl hx156 ⟨fun _ _ => rfl, rfl⟩))
                · intro L157 w158 hi159
                  have hE160 := hi159.ex
                  have hE160z := Ex.size hE160
                  obtain ⟨_, _, _, hx161, -, -, -, rfl⟩ := hi159.dep 1 43 rfl rfl
                  have hx162 := hi159.old 0 _ rfl rfl
                  exact OpR.want rfl rfl hx161 hb56 (Yl.sameI (yl_move rfl hx162 ⟨fun _ _ => rfl, rfl⟩))
                · intro L163 w164 hi165
                  have hE166 := hi165.ex
                  have hE166z := Ex.size hE166
                  obtain ⟨_, _, _, hx167, -, -, -, rfl⟩ := hi165.dep 1 43 rfl rfl
                  have hx168 := hi165.old 5 _ rfl rfl
                  exact OpR.want rfl rfl hx167 hb56 (Yl.sameI (yl_move rfl hx168 ⟨fun _ _ => rfl, rfl⟩))
                · intro L169 w170 hi171
                  have hE172 := hi171.ex
                  have hE172z := Ex.size hE172
                  obtain ⟨_, _, _, hx173, -, -, -, rfl⟩ := hi171.dep 1 43 rfl rfl
                  obtain ⟨_, _, _, hx174, -, -, -, rfl⟩ := hi171.dep 2 44 rfl rfl
                  obtain ⟨_, _, _, hx175, -, -, -, rfl⟩ := hi171.dep 3 45 rfl rfl
                  exact OpR.want rfl rfl hx173 hb56 (Yl.sameI (yl_sindexN Try.un9 (a := p_s) rfl hx174 hx175 (by first | omega | assumption | (simp only [IntKind.wrap_i64] at *; omega)) ⟨fun _ _ => rfl, rfl⟩))
                · intro L176 w177 hi178
                  have hE179 := hi178.ex
                  have hE179z := Ex.size hE179
                  obtain ⟨_, _, _, hx180, -, -, -, rfl⟩ := hi178.dep 1 43 rfl rfl
                  have hx181 := hi178.old 1 _ rfl rfl
                  exact OpR.want rfl rfl hx180 hb56 (Yl.sameI (yl_move rfl hx181 ⟨fun _ _ => rfl, rfl⟩))
                · intro L182 w183 hi184
                  have hE185 := hi184.ex
                  have hE185z := Ex.size hE185
                  obtain ⟨_, _, _, hx186, -, -, -, rfl⟩ := hi184.dep 1 43 rfl rfl
                  have hx187 := hi184.old 7 _ rfl rfl
                  exact OpR.want rfl rfl hx186 hb56 (Yl.sameI (yl_move rfl hx187 ⟨fun _ _ => rfl, rfl⟩))
                · intro L188 w189 hi190
                  have hE191 := hi190.ex
                  have hE191z := Ex.size hE191
                  obtain ⟨_, _, _, hx192, -, -, -, rfl⟩ := hi190.dep 1 43 rfl rfl
                  obtain ⟨_, _, _, hx193, -, -, -, rfl⟩ := hi190.dep 5 47 rfl rfl
                  obtain ⟨_, _, _, hx194, -, -, -, rfl⟩ := hi190.dep 6 48 rfl rfl
                  exact OpR.want rfl rfl hx192 hb56 (Yl.sameI (yl_sindexN Try.un9 (a := p_more) rfl hx193 hx194 (by first | omega | assumption | (simp only [IntKind.wrap_i64] at *; omega)) ⟨fun _ _ => rfl, rfl⟩))
                · intro L195 w196 hi197
                  have hE198 := hi197.ex
                  have hE198z := Ex.size hE198
                  obtain ⟨_, _, _, hx199, -, -, -, rfl⟩ := hi197.dep 1 43 rfl rfl
                  obtain ⟨_, _, _, hx200, -, -, -, rfl⟩ := hi197.dep 4 46 rfl rfl
                  obtain ⟨_, _, _, hx201, -, -, -, rfl⟩ := hi197.dep 7 49 rfl rfl
                  exact OpR.want rfl rfl hx199 hb56 (Yl.sameI (yl_eql rfl hx200 hx201 ⟨fun _ _ => rfl, rfl⟩))
                · intro L202 w203 hi204
                  have hE205 := hi204.ex
                  have hE205z := Ex.size hE205
                  obtain ⟨_, _, _, hx206, -, -, -, rfl⟩ := hi204.dep 8 50 rfl rfl
                  obtain ⟨_, _, _, hx207, -, -, -, rfl⟩ := hi204.dep 1 43 rfl rfl
                  exact OpR.op' rfl (Yl.sameI (yl_pick_f rfl hx207 hb56 hx206 ⟨fun _ _ => rfl, rfl⟩))
                · intro L208 w209 hi210
                  have hE211 := hi210.ex
                  have hE211z := Ex.size hE211
                  obtain ⟨_, _, _, hx212, -, -, -, rfl⟩ := hi210.dep 9 51 rfl rfl
                  exact OpR.op' rfl (Yl.sameI (yl_assign rfl hx212 ⟨fun _ _ => rfl, rfl⟩))
                · intro fl216 fh217 L213 w214 hp215
                  have hE218 := hp215.ex
                  have hE218z := Ex.size hE218
                  have hx219 := hp215.old 0 _ rfl rfl
                  have hx220 := hp215.old 1 _ rfl rfl
                  have hx221 := hp215.old 5 _ rfl rfl
                  have hx222 := hp215.old 7 _ rfl rfl
                  have hx223 := hp215.old 19 _ rfl rfl
                  have hx224 := hp215.old 20 _ rfl rfl
                  have hx225 := hp215.old 21 _ rfl rfl
                  have hx226 := hp215.old 22 _ rfl rfl
                  have hx227 := hp215.old 25 _ rfl rfl
                  have hx228 := hp215.old 26 _ rfl rfl
                  have hx229 := hp215.old 27 _ rfl rfl
                  have hx230 := hp215.old 28 _ rfl rfl
                  have hx231 := hp215.old 29 _ rfl rfl
                  have hx232 := hp215.old 30 _ rfl rfl
                  have hx233 := hp215.old 31 _ rfl rfl
                  have hx234 := hp215.old 32 _ rfl rfl
                  have hx235 := hp215.old 33 _ rfl rfl
                  have hx236 := hp215.old 34 _ rfl rfl
                  obtain ⟨_, hx237, rfl⟩ := hp215.new 2 44 rfl rfl
                  obtain ⟨_, hx238, rfl⟩ := hp215.new 3 45 rfl rfl
                  obtain ⟨_, hx239, rfl⟩ := hp215.new 4 46 rfl rfl
                  obtain ⟨_, hx240, rfl⟩ := hp215.new 5 47 rfl rfl
                  obtain ⟨_, hx241, rfl⟩ := hp215.new 6 48 rfl rfl
                  obtain ⟨_, hx242, rfl⟩ := hp215.new 7 49 rfl rfl
                  obtain ⟨_, hx243, rfl⟩ := hp215.new 8 50 rfl rfl
                  obtain ⟨_, hx244, rfl⟩ := hp215.new 10 6 rfl rfl
                  refine SeqR.done ?_
                  refine bn ?_
                  refine tn ?_
                  refine CW.sub (Sub.cons (d := 0) hx219 (Sub.cons (d := 1) hx220 (Sub.cons (d := 5) hx221 (Sub.cons (d := 6) hx244 (Sub.cons (d := 7) hx222 (Sub.cons (d := 19) hx223 (Sub.cons (d := 20) hx224 (Sub.cons (d := 21) hx225 (Sub.cons (d := 22) hx226 (Sub.cons (d := 25) hx227 (Sub.cons (d := 26) hx228 (Sub.cons (d := 27) hx229 (Sub.cons (d := 28) hx230 (Sub.cons (d := 29) hx231 (Sub.cons (d := 30) hx232 (Sub.cons (d := 31) hx233 (Sub.cons (d := 32) hx234 (Sub.cons (d := 33) hx235 (Sub.cons (d := 34) hx236 (Sub.cons (d := 44) hx237 (Sub.cons (d := 45) hx238 (Sub.cons (d := 46) hx239 (Sub.cons (d := 47) hx240 (Sub.cons (d := 48) hx241 (Sub.cons (d := 49) hx242 (Sub.cons (d := 50) hx243 (Sub.nil _))))))))))))))))))))))))))) ?_
                  refine CW.region ?_
                  refine SeqR.d1 rfl rfl rfl (yl_move rfl rfl ?_)
                  refine SeqR.d1 rfl rfl rfl (yl_inc rfl rfl rfl (by omega) ?_)
                  refine SeqR.d1 rfl rfl rfl (yl_assign rfl rfl ?_)
                  refine SeqR.done ?_
                  refine tn ?_
                  have hB245 : B_s_l3Bytes_1 p_s p_more k5 k23 (x24) = .cont (decide (((p_s.getD k5 0).toNat : Int) = ((p_more.getD k23 0).toNat : Int))) := by simp only [B_s_l3Bytes_1, hb21, hb22, hb56, cond_true, cond_false, loopE_done, loopE_ret]
                  have q246 := Ex.trans hf53 hE218
                  exact ⟨p_more.length - (k23 + 1), by omega, k23 + 1, decide (((p_s.getD k5 0).toNat : Int) = ((p_more.getD k23 0).toNat : Int)), rfl, hlt55, (by omega), rfl, rfl, rfl, rfl, rfl, rfl, rfl, rfl, rfl, rfl, rfl, rfl, rfl, rfl, rfl, rfl, rfl, rfl, rfl, q246, (loopM.cont hlt55 hB245).symm.trans hI32⟩
            · skip
              refine CW.seq ?_
              refine CW.seq ?_
              refine CW.region ?_
              refine SeqR.d1 rfl rfl rfl (yl_move rfl rfl ?_)
              refine SeqR.d1 rfl rfl rfl (yl_move rfl rfl ?_)
              refine SeqR.d1 rfl rfl rfl (yl_slen Try.un9 (a := p_more) rfl rfl ?_)
              refine SeqR.d1 rfl rfl rfl (yl_lss rfl rfl rfl ?_)
              refine SeqR.done ?_
              refine tn ?_
              refine CW.cond_f rfl (lt_f hlt55) ?_
              refine CW.exit ?_
              refine tx ?_
              refine tx ?_
              have hL247 : loopM (B_s_l3Bytes_1 p_s p_more k5) (p_more.length - 0) 0 (true) = .done (x24) := hI32.symm.trans (loopM.stop hlt55)
              refine bx ?_
              refine tn ?_
              refine CW.seq ?_
              refine CW.region ?_
              refine SeqR.d1 rfl rfl rfl (yl_move rfl rfl ?_)
              refine SeqR.d1 rfl rfl rfl (yl_not rfl rfl ?_)
              refine SeqR.done ?_
              refine tn ?_
              refine bcase (x24) (fun hb248 => ?_) (fun hb248 => ?_)
              · skip
                refine CW.cond_f rfl (not_t hb248) ?_
                refine CW.skip ?_
                refine bn ?_
                refine tn ?_
                refine CW.region ?_
                refine SeqR.d1 rfl rfl rfl (yl_move rfl rfl ?_)
                refine SeqR.d1 rfl rfl rfl (yl_inc rfl rfl rfl (by omega) ?_)
                refine SeqR.d1 rfl rfl rfl (yl_assign rfl rfl ?_)
                refine SeqR.done ?_
                refine tn ?_
                have hB249 : B_s_l3Bytes_0 p_s p_more k5 () = .cont () := by simp only [B_s_l3Bytes_0, hb21, hb22, hb248, hL247, cond_true, cond_false, loopE_done, loopE_ret]
                exact ⟨p_s.length - (k5 + 1), by omega, k5 + 1, rfl, hlt20, (by omega), rfl, rfl, rfl, hf53, (loopM.cont hlt20 hB249).symm.trans hI13⟩
              · skip
                refine CW.cond_t rfl (not_f hb248) ?_
                refine CW.seq ?_
                refine CW.region ?_
                refine SeqR.d1 rfl rfl rfl (yl_assign rfl rfl ?_)
                refine SeqR.done ?_
                refine tn ?_
                refine CW.ret ?_
                refine br ?_
                refine tr ?_
                refine tr ?_
                have hB251 : B_s_l3Bytes_0 p_s p_more k5 () = .ret false := by simp only [B_s_l3Bytes_0, hb21, hb22, hb248, hL247, cond_true, cond_false, loopE_done, loopE_ret]
                have hL250 : loopM (B_s_l3Bytes_0 p_s p_more) (p_s.length - 0) 0 () = .ret false := hI13.symm.trans (loopM.ret hlt20 hB251)
                refine br ?_
                refine tr ?_
                refine rr rfl (.cons rfl .nil) ?_
                have hM252 : (s_l3Bytes p_s p_more) = (false) := by simp only [s_l3Bytes, hb21, hb22, hb248, hL247, hL250, cond_true, cond_false, loopE_done, loopE_ret]
                rw [hM252]
                exact ⟨rfl, hf53⟩
        · have hb22p := dec_f hb22
          refine SeqR.y rfl rfl rfl rfl rfl hb22 (yl_move rfl rfl ?_)
          refine SeqR.y rfl rfl rfl rfl rfl hb22 (yl_move rfl rfl ?_)
          refine SeqR.y rfl rfl rfl rfl rfl hb22 (yl_sindexN Try.un9 (a := p_s) rfl rfl rfl (by first | omega | assumption | (simp only [IntKind.wrap_i64] at *; omega)) ?_)
          refine SeqR.y rfl rfl rfl rfl rfl hb22 (yl_geq rfl rfl rfl ?_)
          refine SeqR.y rfl rfl rfl rfl rfl hb22 (yl_move rfl rfl ?_)
          refine bcase (decide (48 ≤ ((p_s.getD k5 0).toNat : Int))) (fun hb253 => ?_) (fun hb253 => ?_)
          · have hb253p := dec_t hb253
            refine SeqR.y rfl rfl rfl rfl rfl hb253 (yl_move rfl rfl ?_)
            refine SeqR.y rfl rfl rfl rfl rfl hb253 (yl_move rfl rfl ?_)
            refine SeqR.y rfl rfl rfl rfl rfl hb253 (yl_sindexN Try.un9 (a := p_s) rfl rfl rfl (by first | omega | assumption | (simp only [IntKind.wrap_i64] at *; omega)) ?_)
            refine SeqR.y rfl rfl rfl rfl rfl hb253 (yl_leq rfl rfl rfl ?_)
            refine SeqR.y rfl rfl rfl rfl rfl hb22 (yl_pick_t rfl rfl hb253 rfl ?_)
            refine SeqR.d1 rfl rfl rfl (yl_pick_f rfl rfl hb22 rfl ?_)
            refine SeqR.d1 rfl rfl rfl (yl_assign rfl rfl ?_)
            refine SeqR.done ?_
            refine tn ?_
            refine CW.seq ?_
            refine CW.seq ?_
            refine CW.region ?_
            refine SeqR.d1 rfl rfl rfl (yl_assign rfl rfl ?_)
            refine SeqR.done ?_
            refine tn ?_
            refine CW.block ?_
            refine CW.loop (fun m256 L257 w258 => ∃ (k254 : Nat) (x255 : Bool), m256 = p_more.length - k254 ∧ k254 ≤ p_more.length ∧ w11.heap.size ≤ w258.heap.size ∧ lkp L257 0 = some (.string (bs (p_s))) ∧ lkp L257 1 = some (.string (bs (p_more))) ∧ lkp L257 5 = some (.int .i64 ((k5 : Int))) ∧ lkp L257 6 = some (.bool (x255)) ∧ lkp L257 7 = some (.int .i64 ((k254 : Int))) ∧ lkp L257 19 = some (.string (bs (p_s))) ∧ lkp L257 20 = some (.int .i64 ((k5 : Int))) ∧ lkp L257 21 = some (.int .u8 (((p_s.getD k5 0).toNat : Int))) ∧ lkp L257 22 = some (.bool (decide (((p_s.getD k5 0).toNat : Int) ≤ 122))) ∧ lkp L257 25 = some (.string (bs (p_s))) ∧ lkp L257 26 = some (.int .i64 ((k5 : Int))) ∧ lkp L257 27 = some (.int .u8 (((p_s.getD k5 0).toNat : Int))) ∧ lkp L257 28 = some (.bool (decide (48 ≤ ((p_s.getD k5 0).toNat : Int)))) ∧ lkp L257 29 = some (.bool (decide (48 ≤ ((p_s.getD k5 0).toNat : Int)))) ∧ lkp L257 30 = some (.string (bs (p_s))) ∧ lkp L257 31 = some (.int .i64 ((k5 : Int))) ∧ lkp L257 32 = some (.int .u8 (((p_s.getD k5 0).toNat : Int))) ∧ lkp L257 33 = some (.bool (decide (((p_s.getD k5 0).toNat : Int) ≤ 57))) ∧ lkp L257 34 = some (.bool (decide (((p_s.getD k5 0).toNat : Int) ≤ 57))) ∧ Ex w w258 ∧ loopM (B_s_l3Bytes_1 p_s p_more k5) (p_more.length - k254) k254 (x255) = loopM (B_s_l3Bytes_1 p_s p_more k5) (p_more.length - 0) 0 (decide (((p_s.getD k5 0).toNat : Int) ≤ 57))) (p_more.length - 0) ?_ ?_
            · exact ⟨0, decide (((p_s.getD k5 0).toNat : Int) ≤ 57), rfl, (by omega), Nat.le_refl _, rfl, rfl, rfl, rfl, rfl, rfl, rfl, rfl, rfl, rfl, rfl, rfl, rfl, rfl, rfl, rfl, rfl, rfl, rfl, hf18, rfl⟩
            · rintro m259 L260 w261 ⟨k254, x255, rfl, hk262, hsz264, hl265, hl266, hl267, hl268, hl269, hl270, hl271, hl272, hl273, hl274, hl275, hl276, hl277, hl278, hl279, hl280, hl281, hl282, hl283, hf284, hI263⟩
              refine CW.sub (Sub.cons hl265 (Sub.cons hl266 (Sub.cons hl267 (Sub.cons hl268 (Sub.cons hl269 (Sub.cons hl270 (Sub.cons hl271 (Sub.cons hl272 (Sub.cons hl273 (Sub.cons hl274 (Sub.cons hl275 (Sub.cons hl276 (Sub.cons hl277 (Sub.cons hl278 (Sub.cons hl279 (Sub.cons hl280 (Sub.cons hl281 (Sub.cons hl282 (Sub.cons hl283 (Sub.nil _)))))))))))))))))))) ?_
              have hf284z := Ex.size hf284
              have hbg285 : p_more.length ≤ 1073741824 := o2
              rcases Nat.lt_or_ge k254 p_more.length with hlt286 | hlt286
              · skip
                refine CW.seq ?_
                refine CW.seq ?_
                refine CW.region ?_
                refine SeqR.d1 rfl rfl rfl (yl_move rfl rfl ?_)
                refine SeqR.d1 rfl rfl rfl (yl_move rfl rfl ?_)
                refine SeqR.d1 rfl rfl rfl (yl_slen Try.un9 (a := p_more) rfl rfl ?_)
                refine SeqR.d1 rfl rfl rfl (yl_lss rfl rfl rfl ?_)
                refine SeqR.done ?_
                refine tn ?_
                refine CW.cond_t rfl (lt_t hlt286) ?_
                refine CW.skip ?_
                refine tn ?_
                refine CW.seq ?_
                refine CW.block ?_
                refine bcase (x255) (fun hb287 => ?_) (fun hb287 => ?_)
                · skip
                  refine CW.drawsI 11 (vgetI [DetI (.bool (x255)), DetI (.bool (x255)), DetI (undef), DetI (undef), DetI (undef), DetI (undef), DetI (undef), DetI (undef), DetI (undef), DetI (.bool (true)), DetI (.bool (true))]) Try.follows rfl rfl rfl rfl rfl rfl (vgetI_stable ⟨StableI.det _, StableI.det _, StableI.det _, StableI.det _, StableI.det _, StableI.det _, StableI.det _, StableI.det _, StableI.det _, StableI.det _, StableI.det _, trivial⟩) ⟨?_, ?_, ?_, ?_, ?_, ?_, ?_, ?_, ?_, ?_, ?_, trivial⟩ ?_
                  · intro L288 w289 hi290
                    have hE291 := hi290.ex
                    have hE291z := Ex.size hE291
                    have hx292 := hi290.old 6 _ rfl rfl
                    exact OpR.op' rfl (Yl.sameI (yl_move rfl hx292 ⟨fun _ _ => rfl, rfl⟩))
                  · intro L293 w294 hi295
                    have hE296 := hi295.ex
                    have hE296z := Ex.size hE296
                    obtain ⟨_, _, _, hx297, -, -, -, rfl⟩ := hi295.dep 0 42 rfl rfl
                    exact OpR.op' rfl (Yl.sameI (yl_move rfl hx297 ⟨fun _ _ => rfl, rfl⟩))
                  · intro L298 w299 hi300
                    have hE301 := hi300.ex
                    have hE301z := Ex.size hE301
                    obtain ⟨_, _, _, hx302, -, -, -, rfl⟩ := hi300.dep 1 43 rfl rfl
                    exact OpR.skip rfl rfl hx302 hb287 ⟨rfl, Ex.refl _⟩
                  · intro L303 w304 hi305
                    have hE306 := hi305.ex
                    have hE306z := Ex.size hE306
                    obtain ⟨_, _, _, hx307, -, -, -, rfl⟩ := hi305.dep 1 43 rfl rfl
                    exact OpR.skip rfl rfl hx307 hb287 ⟨rfl, Ex.refl _⟩
                  · intro L308 w309 hi310
                    have hE311 := hi310.ex
                    have hE311z := Ex.size hE311
                    obtain ⟨_, _, _, hx312, -, -, -, rfl⟩ := hi310.dep 1 43 rfl rfl
                    exact OpR.skip rfl rfl hx312 hb287 ⟨rfl, Ex.refl _⟩
                  · intro L313 w314 hi315
                    have hE316 := hi315.ex
                    have hE316z := Ex.size hE316
                    obtain ⟨_, _, _, hx317, -, -, -, rfl⟩ := hi315.dep 1 43 rfl rfl
                    exact OpR.skip rfl rfl hx317 hb287 ⟨rfl, Ex.refl _⟩
                  · intro L318 w319 hi320
                    have hE321 := hi320.ex
                    have hE321z := Ex.size hE321
                    obtain ⟨_, _, _, hx322, -, -, -, rfl⟩ := hi320.dep 1 43 rfl rfl
                    exact OpR.skip rfl rfl hx322 hb287 ⟨rfl, Ex.refl _⟩
                  · intro L323 w324 hi325
                    have hE326 := hi325.ex
                    have hE326z := Ex.size hE326
                    obtain ⟨_, _, _, hx327, -, -, -, rfl⟩ := hi325.dep 1 43 rfl rfl
                    exact OpR.skip rfl rfl hx327 hb287 ⟨rfl, Ex.refl _⟩
                  · intro L328 w329 hi330
                    have hE331 := hi330.ex
                    have hE331z := Ex.size hE331
                    obtain ⟨_, _, _, hx332, -, -, -, rfl⟩ := hi330.dep 1 43 rfl rfl
                    exact OpR.skip rfl rfl hx332 hb287 ⟨rfl, Ex.refl _⟩
                  · intro L333 w334 hi335
                    have hE336 := hi335.ex
                    have hE336z := Ex.size hE336
                    obtain ⟨_, _, _, hx337, -, -, -, rfl⟩ := hi335.dep 8 50 rfl rfl
                    obtain ⟨_, _, _, hx338, -, -, -, rfl⟩ := hi335.dep 1 43 rfl rfl
                    exact OpR.op' rfl (Yl.sameI (yl_pick_t rfl hx338 hb287 rfl ⟨fun _ _ => rfl, rfl⟩))
                  · intro L339 w340 hi341
                    have hE342 := hi341.ex
                    have hE342z := Ex.size hE342
                    obtain ⟨_, _, _, hx343, -, -, -, rfl⟩ := hi341.dep 9 51 rfl rfl
                    exact OpR.op' rfl (Yl.sameI (yl_assign rfl hx343 ⟨fun _ _ => rfl, rfl⟩))
                  · intro fl347 fh348 L344 w345 hp346
                    have hE349 := hp346.ex
                    have hE349z := Ex.size hE349
                    have hx350 := hp346.old 0 _ rfl rfl
                    have hx351 := hp346.old 1 _ rfl rfl
                    have hx352 := hp346.old 5 _ rfl rfl
                    have hx353 := hp346.old 7 _ rfl rfl
                    have hx354 := hp346.old 19 _ rfl rfl
                    have hx355 := hp346.old 20 _ rfl rfl
                    have hx356 := hp346.old 21 _ rfl rfl
                    have hx357 := hp346.old 22 _ rfl rfl
                    have hx358 := hp346.old 25 _ rfl rfl
                    have hx359 := hp346.old 26 _ rfl rfl
                    have hx360 := hp346.old 27 _ rfl rfl
                    have hx361 := hp346.old 28 _ rfl rfl
                    have hx362 := hp346.old 29 _ rfl rfl
                    have hx363 := hp346.old 30 _ rfl rfl
                    have hx364 := hp346.old 31 _ rfl rfl
                    have hx365 := hp346.old 32 _ rfl rfl
                    have hx366 := hp346.old 33 _ rfl rfl
                    have hx367 := hp346.old 34 _ rfl rfl
                    obtain ⟨_, hx368, rfl⟩ := hp346.new 2 44 rfl rfl
                    obtain ⟨_, hx369, rfl⟩ := hp346.new 3 45 rfl rfl
                    obtain ⟨_, hx370, rfl⟩ := hp346.new 4 46 rfl rfl
                    obtain ⟨_, hx371, rfl⟩ := hp346.new 5 47 rfl rfl
                    obtain ⟨_, hx372, rfl⟩ := hp346.new 6 48 rfl rfl
                    obtain ⟨_, hx373, rfl⟩ := hp346.new 7 49 rfl rfl
                    obtain ⟨_, hx374, rfl⟩ := hp346.new 8 50 rfl rfl
                    obtain ⟨_, hx375, rfl⟩ := hp346.new 10 6 rfl rfl
                    refine SeqR.done ?_
                    refine bn ?_
                    refine tn ?_
                    refine CW.sub (Sub.cons (d := 0) hx350 (Sub.cons (d := 1) hx351 (Sub.cons (d := 5) hx352 (Sub.cons (d := 6) hx375 (Sub.cons (d := 7) hx353 (Sub.cons (d := 19) hx354 (Sub.cons (d := 20) hx355 (Sub.cons (d := 21) hx356 (Sub.cons (d := 22) hx357 (Sub.cons (d := 25) hx358 (Sub.cons (d := 26) hx359 (Sub.cons (d := 27) hx360 (Sub.cons (d := 28) hx361 (Sub.cons (d := 29) hx362 (Sub.cons (d := 30) hx363 (Sub.cons (d := 31) hx364 (Sub.cons (d := 32) hx365 (Sub.cons (d := 33) hx366 (Sub.cons (d := 34) hx367 (Sub.cons (d := 44) hx368 (Sub.cons (d := 45) hx369 (Sub.cons (d := 46) hx370 (Sub.cons (d := 47) hx371 (Sub.cons (d := 48) hx372 (Sub.cons (d := 49) hx373 (Sub.cons (d := 50) hx374 (Sub.nil _))))))))))))))))))))))))))) ?_
                    refine CW.region ?_
                    refine SeqR.d1 rfl rfl rfl (yl_move rfl rfl ?_)
                    refine SeqR.d1 rfl rfl rfl (yl_inc rfl rfl rfl (by omega) ?_)
                    refine SeqR.d1 rfl rfl rfl (yl_assign rfl rfl ?_)
                    refine SeqR.done ?_
                    refine tn ?_
                    have hB376 : B_s_l3Bytes_1 p_s p_more k5 k254 (x255) = .cont (true) := by simp only [B_s_l3Bytes_1, hb21, hb22, hb253, hb287, cond_true, cond_false, loopE_done, loopE_ret]
                    have q377 := Ex.trans hf284 hE349
                    exact ⟨p_more.length - (k254 + 1), by omega, k254 + 1, true, rfl, hlt286, (by omega), rfl, rfl, rfl, rfl, rfl, rfl, rfl, rfl, rfl, rfl, rfl, rfl, rfl, rfl, rfl, rfl, rfl, rfl, rfl, q377, (loopM.cont hlt286 hB376).symm.trans hI263⟩
                · skip
                  refine CW.drawsI 11 (vgetI [DetI (.bool (x255)), DetI (.bool (x255)), DetI (.string (bs (p_s))), DetI (.int .i64 ((k5 : Int))), DetI (.int .u8 (((p_s.getD k5 0).toNat : Int))), DetI (.string (bs (p_more))), DetI (.int .i64 ((k254 : Int))), DetI (.int .u8 (((p_more.getD k254 0).toNat : Int))), DetI (.bool (decide (((p_s.getD k5 0).toNat : Int) = ((p_more.getD k254 0).toNat : Int)))), DetI (.bool (decide (((p_s.getD k5 0).toNat : Int) = ((p_more.getD k254 0).toNat : Int)))), DetI (.bool (decide (((p_s.getD k5 0).toNat : Int) = ((p_more.getD k254 0).toNat : Int))))]) Try.follows rfl rfl rfl rfl rfl rfl (vgetI_stable ⟨StableI.det _, StableI.det _, StableI.det _, StableI.det _, StableI.det _, StableI.det _, StableI.det _, StableI.det _, StableI.det _, StableI.det _, StableI.det _, trivial⟩) ⟨?_, ?_, ?_, ?_, ?_, ?_, ?_, ?_, ?_, ?_, ?_, trivial⟩ ?_
                  · intro L378 w379 hi380
                    have hE381 := hi380.ex
                    have hE381z := Ex.size hE381
                    have hx382 := hi380.old 6 _ rfl rfl
                    exact OpR.op' rfl (Yl.sameI (yl_move rfl hx382 ⟨fun _ _ => rfl, rfl⟩))
                  · intro L383 w384 hi385
                    have hE386 := hi385.ex
                    have hE386z := Ex.size hE386
                    obtain ⟨_, _, _, hx387, -, -, -, rfl⟩ := hi385.dep 0 42 rfl rfl
                    exact OpR.op' rfl (Yl.sameI (yl_move rfl hx387 ⟨fun _ _ => rfl, rfl⟩))
                  · intro L388 w389 hi390
                    have hE391 := hi390.ex
                    have hE391z := Ex.size hE391
                    obtain ⟨_, _, _, hx392, -, -, -, rfl⟩ := hi390.dep 1 43 rfl rfl
                    have hx393 := hi390.old 0 _ rfl rfl
                    exact OpR.want rfl rfl hx392 hb287 (Yl.sameI (yl_move rfl hx393 ⟨fun _ _ => rfl, rfl⟩))
                  · intro L394 w395 hi396
                    have hE397 := hi396.ex
                    have hE397z := Ex.size hE397
                    obtain ⟨_, _, _, hx398, -, -, -, rfl⟩ := hi396.dep 1 43 rfl rfl
                    have hx399 := hi396.old 5 _ rfl rfl
                    exact OpR.want rfl rfl hx398 hb287 (Yl.sameI (yl_move rfl hx399 ⟨fun _ _ => rfl, rfl⟩))
                  · intro L400 w401 hi402
                    have hE403 := hi402.ex
                    have hE403z := Ex.size hE403
                    obtain ⟨_, _, _, hx404, -, -, -, rfl⟩ := hi402.dep 1 43 rfl rfl
                    obtain ⟨_, _, _, hx405, -, -, -, rfl⟩ := hi402.dep 2 44 rfl rfl
                    obtain ⟨_, _, _, hx406, -, -, -, rfl⟩ := hi402.dep 3 45 rfl rfl
                    exact OpR.want rfl rfl hx404 hb287 (Yl.sameI (yl_sindexN Try.un9 (a := p_s) rfl hx405 hx406 (by first | omega | assumption | (simp only [IntKind.wrap_i64] at *; omega)) ⟨fun _ _ => rfl, rfl⟩))
                  · intro L407 w408 hi409
                    have hE410 := hi409.ex
                    have hE410z := Ex.size hE410
                    obtain ⟨_, _, _, hx411, -, -, -, rfl⟩ := hi409.dep 1 43 rfl rfl
                    have hx412 := hi409.old 1 _ rfl rfl
                    exact OpR.want rfl rfl hx411 hb287 (Yl.sameI (yl_move rfl hx412 ⟨fun _ _ => rfl, rfl⟩))
                  · intro L413 w414 hi415
                    have hE416 := hi415.ex
                    have hE416z := Ex.size hE416
                    obtain ⟨_, _, _, hx417, -, -, -, rfl⟩ := hi415.dep 1 43 rfl rfl
                    have hx418 := hi415.old 7 _ rfl rfl
                    exact OpR.want rfl rfl hx417 hb287 (Yl.sameI (yl_move rfl hx418 ⟨fun _ _ => rfl, rfl⟩))
                  · intro L419 w420 hi421
                    have hE422 := hi421.ex
                    have hE422z := Ex.size hE422
                    obtain ⟨_, _, _, hx423, -, -, -, rfl⟩ := hi421.dep 1 43 rfl rfl
                    obtain ⟨_, _, _, hx424, -, -, -, rfl⟩ := hi421.dep 5 47 rfl rfl
                    obtain ⟨_, _, _, hx425, -, -, -, rfl⟩ := hi421.dep 6 48 rfl rfl
                    exact OpR.want rfl rfl hx423 hb287 (Yl.sameI (yl_sindexN Try.un9 (a := p_more) rfl hx424 hx425 (by first | omega | assumption | (simp only [IntKind.wrap_i64] at *; omega)) ⟨fun _ _ => rfl, rfl⟩))
                  · intro L426 w427 hi428
                    have hE429 := hi428.ex
                    have hE429z := Ex.size hE429
                    obtain ⟨_, _, _, hx430, -, -, -, rfl⟩ := hi428.dep 1 43 rfl rfl
                    obtain ⟨_, _, _, hx431, -, -, -, rfl⟩ := hi428.dep 4 46 rfl rfl
                    obtain ⟨_, _, _, hx432, -, -, -, rfl⟩ := hi428.dep 7 49 rfl rfl
                    exact OpR.want rfl rfl hx430 hb287 (Yl.sameI (yl_eql rfl hx431 hx432 ⟨fun _ _ => rfl, rfl⟩))
                  · intro L433 w434 hi435
                    have hE436 := hi435.ex
                    have hE436z := Ex.size hE436
                    obtain ⟨_, _, _, hx437, -, -, -, rfl⟩ := hi435.dep 8 50 rfl rfl
                    obtain ⟨_, _, _, hx438, -, -, -, rfl⟩ := hi435.dep 1 43 rfl rfl
                    exact OpR.op' rfl (Yl.sameI (yl_pick_f rfl hx438 hb287 hx437 ⟨fun _ _ => rfl, rfl⟩))
                  · intro L439 w440 hi441
                    have hE442 := hi441.ex
                    have hE442z := Ex.size hE442
                    obtain ⟨_, _, _, hx443, -, -, -, rfl⟩ := hi441.dep 9 51 rfl rfl
                    exact OpR.op' rfl (Yl.sameI (yl_assign rfl hx443 ⟨fun _ _ => rfl, rfl⟩))
                  · intro fl447 fh448 L444 w445 hp446
                    have hE449 := hp446.ex
                    have hE449z := Ex.size hE449
                    have hx450 := hp446.old 0 _ rfl rfl
                    have hx451 := hp446.old 1 _ rfl rfl
                    have hx452 := hp446.old 5 _ rfl rfl
                    have hx453 := hp446.old 7 _ rfl rfl
                    have hx454 := hp446.old 19 _ rfl rfl
                    have hx455 := hp446.old 20 _ rfl rfl
                    have hx456 := hp446.old 21 _ rfl rfl
                    have hx457 := hp446.old 22 _ rfl rfl
                    have hx458 := hp446.old 25 _ rfl rfl
                    have hx459 := hp446.old 26 _ rfl rfl
                    have hx460 := hp446.old 27 _ rfl rfl
                    have hx461 := hp446.old 28 _ rfl rfl
                    have hx462 := hp446.old 29 _ rfl rfl
                    have hx463 := hp446.old 30 _ rfl rfl
                    have hx464 := hp446.old 31 _ rfl rfl
                    have hx465 := hp446.old 32 _ rfl rfl
                    have hx466 := hp446.old 33 _ rfl rfl
                    have hx467 := hp446.old 34 _ rfl rfl
                    obtain ⟨_, hx468, rfl⟩ := hp446.new 2 44 rfl rfl
                    obtain ⟨_, hx469, rfl⟩ := hp446.new 3 45 rfl rfl
                    obtain ⟨_, hx470, rfl⟩ := hp446.new 4 46 rfl rfl
                    obtain ⟨_, hx471, rfl⟩ := hp446.new 5 47 rfl rfl
                    obtain ⟨_, hx472, rfl⟩ := hp446.new 6 48 rfl rfl
                    obtain ⟨_, hx473, rfl⟩ := hp446.new 7 49 rfl rfl
                    obtain ⟨_, hx474, rfl⟩ := hp446.new 8 50 rfl rfl
                    obtain ⟨_, hx475, rfl⟩ := hp446.new 10 6 rfl rfl
                    refine SeqR.done ?_
                    refine bn ?_
                    refine tn ?_
                    refine CW.sub (Sub.cons (d := 0) hx450 (Sub.cons (d := 1) hx451 (Sub.cons (d := 5) hx452 (Sub.cons (d := 6) hx475 (Sub.cons (d := 7) hx453 (Sub.cons (d := 19) hx454 (Sub.cons (d := 20) hx455 (Sub.cons (d := 21) hx456 (Sub.cons (d := 22) hx457 (Sub.cons (d := 25) hx458 (Sub.cons (d := 26) hx459 (Sub.cons (d := 27) hx460 (Sub.cons (d := 28) hx461 (Sub.cons (d := 29) hx462 (Sub.cons (d := 30) hx463 (Sub.cons (d := 31) hx464 (Sub.cons (d := 32) hx465 (Sub.cons (d := 33) hx466 (Sub.cons (d := 34) hx467 (Sub.cons (d := 44) hx468 (Sub.cons (d := 45) hx469 (Sub.cons (d := 46) hx470 (Sub.cons (d := 47) hx471 (Sub.cons (d := 48) hx472 (Sub.cons (d := 49) hx473 (Sub.cons (d := 50) hx474 (Sub.nil _))))))))))))))))))))))))))) ?_
                    refine CW.region ?_
                    refine SeqR.d1 rfl rfl rfl (yl_move rfl rfl ?_)
                    refine SeqR.d1 rfl rfl rfl (yl_inc rfl rfl rfl (by omega) ?_)
                    refine SeqR.d1 rfl rfl rfl (yl_assign rfl rfl ?_)
                    refine SeqR.done ?_
                    refine tn ?_
                    have hB476 : B_s_l3Bytes_1 p_s p_more k5 k254 (x255) = .cont (decide (((p_s.getD k5 0).toNat : Int) = ((p_more.getD k254 0).toNat : Int))) := by simp only [B_s_l3Bytes_1, hb21, hb22, hb253, hb287, cond_true, cond_false, loopE_done, loopE_ret]
                    have q477 := Ex.trans hf284 hE449
                    exact ⟨p_more.length - (k254 + 1), by omega, k254 + 1, decide (((p_s.getD k5 0).toNat : Int) = ((p_more.getD k254 0).toNat : Int)), rfl, hlt286, (by omega), rfl, rfl, rfl, rfl, rfl, rfl, rfl, rfl, rfl, rfl, rfl, rfl, rfl, rfl, rfl, rfl, rfl, rfl, rfl, q477, (loopM.cont hlt286 hB476).symm.trans hI263⟩
              · skip
                refine CW.seq ?_
                refine CW.seq ?_
                refine CW.region ?_
                refine SeqR.d1 rfl rfl rfl (yl_move rfl rfl ?_)
                refine SeqR.d1 rfl rfl rfl (yl_move rfl rfl ?_)
                refine SeqR.d1 rfl rfl rfl (yl_slen Try.un9 (a := p_more) rfl rfl ?_)
                refine SeqR.d1 rfl rfl rfl (yl_lss rfl rfl rfl ?_)
                refine SeqR.done ?_
                refine tn ?_
                refine CW.cond_f rfl (lt_f hlt286) ?_
                refine CW.exit ?_
                refine tx ?_
                refine tx ?_
                have hL478 : loopM (B_s_l3Bytes_1 p_s p_more k5) (p_more.length - 0) 0 (decide (((p_s.getD k5 0).toNat : Int) ≤ 57)) = .done (x255) := hI263.symm.trans (loopM.stop hlt286)
                refine bx ?_
                refine tn ?_
                refine CW.seq ?_
                refine CW.region ?_
                refine SeqR.d1 rfl rfl rfl (yl_move rfl rfl ?_)
                refine SeqR.d1 rfl rfl rfl (yl_not rfl rfl ?_)
                refine SeqR.done ?_
                refine tn ?_
                refine bcase (x255) (fun hb479 => ?_) (fun hb479 => ?_)
                · skip
                  refine CW.cond_f rfl (not_t hb479) ?_
                  refine CW.skip ?_
                  refine bn ?_
                  refine tn ?_
                  refine CW.region ?_
                  refine SeqR.d1 rfl rfl rfl (yl_move rfl rfl ?_)
                  refine SeqR.d1 rfl rfl rfl (yl_inc rfl rfl rfl (by omega) ?_)
                  refine SeqR.d1 rfl rfl rfl (yl_assign rfl rfl ?_)
                  refine SeqR.done ?_
                  refine tn ?_
                  have hB480 : B_s_l3Bytes_0 p_s p_more k5 () = .cont () := by simp only [B_s_l3Bytes_0, hb21, hb22, hb253, hb479, hL478, cond_true, cond_false, loopE_done, loopE_ret]
                  exact ⟨p_s.length - (k5 + 1), by omega, k5 + 1, rfl, hlt20, (by omega), rfl, rfl, rfl, hf284, (loopM.cont hlt20 hB480).symm.trans hI13⟩
                · skip
                  refine CW.cond_t rfl (not_f hb479) ?_
                  refine CW.seq ?_
                  refine CW.region ?_
                  refine SeqR.d1 rfl rfl rfl (yl_assign rfl rfl ?_)
                  refine SeqR.done ?_
                  refine tn ?_
                  refine CW.ret ?_
                  refine br ?_
                  refine tr ?_
                  refine tr ?_
                  have hB482 : B_s_l3Bytes_0 p_s p_more k5 () = .ret false := by simp only [B_s_l3Bytes_0, hb21, hb22, hb253, hb479, hL478, cond_true, cond_false, loopE_done, loopE_ret]
                  have hL481 : loopM (B_s_l3Bytes_0 p_s p_more) (p_s.length - 0) 0 () = .ret false := hI13.symm.trans (loopM.ret hlt20 hB482)
                  refine br ?_
                  refine tr ?_
                  refine rr rfl (.cons rfl .nil) ?_
                  have hM483 : (s_l3Bytes p_s p_more) = (false) := by simp only [s_l3Bytes, hb21, hb22, hb253, hb479, hL478, hL481, cond_true, cond_false, loopE_done, loopE_ret]
                  rw [hM483]
                  exact ⟨rfl, hf284⟩
          · have hb253p := dec_f hb253
            refine SeqR.z rfl rfl rfl rfl rfl hb253 ?_
            refine SeqR.z rfl rfl rfl rfl rfl hb253 ?_
            refine SeqR.z rfl rfl rfl rfl rfl hb253 ?_
            refine SeqR.z rfl rfl rfl rfl rfl hb253 ?_
            refine SeqR.y rfl rfl rfl rfl rfl hb22 (yl_pick_f rfl rfl hb253 rfl ?_)
            refine SeqR.d1 rfl rfl rfl (yl_pick_f rfl rfl hb22 rfl ?_)
            refine SeqR.d1 rfl rfl rfl (yl_assign rfl rfl ?_)
            refine SeqR.done ?_
            refine tn ?_
            refine CW.seq ?_
            refine CW.seq ?_
            refine CW.region ?_
            refine SeqR.d1 rfl rfl rfl (yl_assign rfl rfl ?_)
            refine SeqR.done ?_
            refine tn ?_
            refine CW.block ?_
            refine CW.loop (fun m486 L487 w488 => ∃ (k484 : Nat) (x485 : Bool), m486 = p_more.length - k484 ∧ k484 ≤ p_more.length ∧ w11.heap.size ≤ w488.heap.size ∧ lkp L487 0 = some (.string (bs (p_s))) ∧ lkp L487 1 = some (.string (bs (p_more))) ∧ lkp L487 5 = some (.int .i64 ((k5 : Int))) ∧ lkp L487 6 = some (.bool (x485)) ∧ lkp L487 7 = some (.int .i64 ((k484 : Int))) ∧ lkp L487 19 = some (.string (bs (p_s))) ∧ lkp L487 20 = some (.int .i64 ((k5 : Int))) ∧ lkp L487 21 = some (.int .u8 (((p_s.getD k5 0).toNat : Int))) ∧ lkp L487 22 = some (.bool (decide (((p_s.getD k5 0).toNat : Int) ≤ 122))) ∧ lkp L487 25 = some (.string (bs (p_s))) ∧ lkp L487 26 = some (.int .i64 ((k5 : Int))) ∧ lkp L487 27 = some (.int .u8 (((p_s.getD k5 0).toNat : Int))) ∧ lkp L487 28 = some (.bool (decide (48 ≤ ((p_s.getD k5 0).toNat : Int)))) ∧ lkp L487 29 = some (.bool (decide (48 ≤ ((p_s.getD k5 0).toNat : Int)))) ∧ lkp L487 30 = some (undef) ∧ lkp L487 31 = some (undef) ∧ lkp L487 32 = some (undef) ∧ lkp L487 33 = some (undef) ∧ lkp L487 34 = some (.bool (false)) ∧ Ex w w488 ∧ loopM (B_s_l3Bytes_1 p_s p_more k5) (p_more.length - k484) k484 (x485) = loopM (B_s_l3Bytes_1 p_s p_more k5) (p_more.length - 0) 0 (false)) (p_more.length - 0) ?_ ?_
            · exact ⟨0, false, rfl, (by omega), Nat.le_refl _, rfl, rfl, rfl, rfl, rfl, rfl, rfl, rfl, rfl, rfl, rfl, rfl, rfl, rfl, rfl, rfl, rfl, rfl, rfl, hf18, rfl⟩
            · rintro m489 L490 w491 ⟨k484, x485, rfl, hk492, hsz494, hl495, hl496, hl497, hl498, hl499, hl500, hl501, hl502, hl503, hl504, hl505, hl506, hl507, hl508, hl509, hl510, hl511, hl512, hl513, hf514, hI493⟩
              refine CW.sub (Sub.cons hl495 (Sub.cons hl496 (Sub.cons hl497 (Sub.cons hl498 (Sub.cons hl499 (Sub.cons hl500 (Sub.cons hl501 (Sub.cons hl502 (Sub.cons hl503 (Sub.cons hl504 (Sub.cons hl505 (Sub.cons hl506 (Sub.cons hl507 (Sub.cons hl508 (Sub.cons hl509 (Sub.cons hl510 (Sub.cons hl511 (Sub.cons hl512 (Sub.cons hl513 (Sub.nil _)))))))))))))))))))) ?_
              have hf514z := Ex.size hf514
              have hbg515 : p_more.length ≤ 1073741824 := o2
              rcases Nat.lt_or_ge k484 p_more.length with hlt516 | hlt516
              · skip
                refine CW.seq ?_
                refine CW.seq ?_
                refine CW.region ?_
                refine SeqR.d1 rfl rfl rfl (yl_move rfl rfl ?_)
                refine SeqR.d1 rfl rfl rfl (yl_move rfl rfl ?_)
                refine SeqR.d1 rfl rfl rfl (yl_slen Try.un9 (a := p_more) rfl rfl ?_)
                refine SeqR.d1 rfl rfl rfl (yl_lss rfl rfl rfl ?_)
                refine SeqR.done ?_
                refine tn ?_
                refine CW.cond_t rfl (lt_t hlt516) ?_
                refine CW.skip ?_
                refine tn ?_
                refine CW.seq ?_
                refine CW.block ?_
                refine bcase (x485) (fun hb517 => ?_) (fun hb517 => ?_)
                · skip
                  refine CW.drawsI 11 (vgetI [DetI (.bool (x485)), DetI (.bool (x485)), DetI (undef), DetI (undef), DetI (undef), DetI (undef), DetI (undef), DetI (undef), DetI (undef), DetI (.bool (true)), DetI (.bool (true))]) Try.follows rfl rfl rfl rfl rfl rfl (vgetI_stable ⟨StableI.det _, StableI.det _, StableI.det _, StableI.det _, StableI.det _, StableI.det _, StableI.det _, StableI.det _, StableI.det _, StableI.det _, StableI.det _, trivial⟩) ⟨?_, ?_, ?_, ?_, ?_, ?_, ?_, ?_, ?_, ?_, ?_, trivial⟩ ?_
                  · intro L518 w519 hi520
                    have hE521 := hi520.ex
                    have hE521z := Ex.size hE521
                    have hx522 := hi520.old 6 _ rfl rfl
                    exact OpR.op' rfl (Yl.sameI (yl_move rfl hx522 ⟨fun _ _ => rfl, rfl⟩))
                  · intro L523 w524 hi525
                    have hE526 := hi525.ex
                    have hE526z := Ex.size hE526
                    obtain ⟨_, _, _, hx527, -, -, -, rfl⟩ := hi525.dep 0 42 rfl rfl
                    exact OpR.op' rfl (Yl.sameI (yl_move rfl hx527 ⟨fun _ _ => rfl, rfl⟩))
                  · intro L528 w529 hi530
                    have hE531 := hi530.ex
                    have hE531z := Ex.size hE531
                    obtain ⟨_, _, _, hx532, -, -, -, rfl⟩ := hi530.dep 1 43 rfl rfl
                    exact OpR.skip rfl rfl hx532 hb517 ⟨rfl, Ex.refl _⟩
                  · intro L533 w534 hi535
                    have hE536 := hi535.ex
                    have hE536z := Ex.size hE536
                    obtain ⟨_, _, _, hx537, -, -, -, rfl⟩ := hi535.dep 1 43 rfl rfl
                    exact OpR.skip rfl rfl hx537 hb517 ⟨rfl, Ex.refl _⟩
                  · intro L538 w539 hi540
                    have hE541 := hi540.ex
                    have hE541z := Ex.size hE541
                    obtain ⟨_, _, _, hx542, -, -, -, rfl⟩ := hi540.dep 1 43 rfl rfl
                    exact OpR.skip rfl rfl hx542 hb517 ⟨rfl, Ex.refl _⟩
                  · intro L543 w544 hi545
                    have hE546 := hi545.ex
                    have hE546z := Ex.size hE546
                    obtain ⟨_, _, _, hx547, -, -, -, rfl⟩ := hi545.dep 1 43 rfl rfl
                    exact OpR.skip rfl rfl hx547 hb517 ⟨rfl, Ex.refl _⟩
                  · intro L548 w549 hi550
                    have hE551 := hi550.ex
                    have hE551z := Ex.size hE551
                    obtain ⟨_, _, _, hx552, -, -, -, rfl⟩ := hi550.dep 1 43 rfl rfl
                    exact OpR.skip rfl rfl hx552 hb517 ⟨rfl, Ex.refl _⟩
                  · intro L553 w554 hi555
                    have hE556 := hi555.ex
                    have hE556z := Ex.size hE556
                    obtain ⟨_, _, _, hx557, -, -, -, rfl⟩ := hi555.dep 1 43 rfl rfl
                    exact OpR.skip rfl rfl hx557 hb517 ⟨rfl, Ex.refl _⟩
                  · intro L558 w559 hi560
                    have hE561 := hi560.ex
                    have hE561z := Ex.size hE561
                    obtain ⟨_, _, _, hx562, -, -, -, rfl⟩ := hi560.dep 1 43 rfl rfl
                    exact OpR.skip rfl rfl hx562 hb517 ⟨rfl, Ex.refl _⟩
                  · intro L563 w564 hi565
                    have hE566 := hi565.ex
                    have hE566z := Ex.size hE566
                    obtain ⟨_, _, _, hx567, -, -, -, rfl⟩ := hi565.dep 8 50 rfl rfl
                    obtain ⟨_, _, _, hx568, -, -, -, rfl⟩ := hi565.dep 1 43 rfl rfl
                    exact OpR.op' rfl (Yl.sameI (yl_pick_t rfl hx568 hb517 rfl ⟨fun _ _ => rfl, rfl⟩))
                  · intro L569 w570 hi571
                    have hE572 := hi571.ex
                    have hE572z := Ex.size hE572
                    obtain ⟨_, _, _, hx573, -, -, -, rfl⟩ := hi571.dep 9 51 rfl rfl
                    exact OpR.op' rfl (Yl.sameI (yl_assign rfl hx573 ⟨fun _ _ => rfl, rfl⟩))
                  · intro fl577 fh578 L574 w575 hp576
                    have hE579 := hp576.ex
                    have hE579z := Ex.size hE579
                    have hx580 := hp576.old 0 _ rfl rfl
                    have hx581 := hp576.old 1 _ rfl rfl
                    have hx582 := hp576.old 5 _ rfl rfl
                    have hx583 := hp576.old 7 _ rfl rfl
                    have hx584 := hp576.old 19 _ rfl rfl
                    have hx585 := hp576.old 20 _ rfl rfl
                    have hx586 := hp576.old 21 _ rfl rfl
                    have hx587 := hp576.old 22 _ rfl rfl
                    have hx588 := hp576.old 25 _ rfl rfl
                    have hx589 := hp576.old 26 _ rfl rfl
                    have hx590 := hp576.old 27 _ rfl rfl
                    have hx591 := hp576.old 28 _ rfl rfl
                    have hx592 := hp576.old 29 _ rfl rfl
                    have hx593 := hp576.old 30 _ rfl rfl
                    have hx594 := hp576.old 31 _ rfl rfl
                    have hx595 := hp576.old 32 _ rfl rfl
                    have hx596 := hp576.old 33 _ rfl rfl
                    have hx597 := hp576.old 34 _ rfl rfl
                    obtain ⟨_, hx598, rfl⟩ := hp576.new 2 44 rfl rfl
                    obtain ⟨_, hx599, rfl⟩ := hp576.new 3 45 rfl rfl
                    obtain ⟨_, hx600, rfl⟩ := hp576.new 4 46 rfl rfl
                    obtain ⟨_, hx601, rfl⟩ := hp576.new 5 47 rfl rfl
                    obtain ⟨_, hx602, rfl⟩ := hp576.new 6 48 rfl rfl
                    obtain ⟨_, hx603, rfl⟩ := hp576.new 7 49 rfl rfl
                    obtain ⟨_, hx604, rfl⟩ := hp576.new 8 50 rfl rfl
                    obtain ⟨_, hx605, rfl⟩ := hp576.new 10 6 rfl rfl
                    refine SeqR.done ?_
                    refine bn ?_
                    refine tn ?_
                    refine CW.sub (Sub.cons (d := 0) hx580 (Sub.cons (d := 1) hx581 (Sub.cons (d := 5) hx582 (Sub.cons (d := 6) hx605 (Sub.cons (d := 7) hx583 (Sub.cons (d := 19) hx584 (Sub.cons (d := 20) hx585 (Sub.cons (d := 21) hx586 (Sub.cons (d := 22) hx587 (Sub.cons (d := 25) hx588 (Sub.cons (d := 26) hx589 (Sub.cons (d := 27) hx590 (Sub.cons (d := 28) hx591 (Sub.cons (d := 29) hx592 (Sub.cons (d := 30) hx593 (Sub.cons (d := 31) hx594 (Sub.cons (d := 32) hx595 (Sub.cons (d := 33) hx596 (Sub.cons (d := 34) hx597 (Sub.cons (d := 44) hx598 (Sub.cons (d := 45) hx599 (Sub.cons (d := 46) hx600 (Sub.cons (d := 47) hx601 (Sub.cons (d := 48) hx602 (Sub.cons (d := 49) hx603 (Sub.cons (d := 50) hx604 (Sub.nil _))))))))))))))))))))))))))) ?_
                    refine CW.region ?_
                    refine SeqR.d1 rfl rfl rfl (yl_move rfl rfl ?_)
                    refine SeqR.d1 rfl rfl rfl (yl_inc rfl rfl rfl (by omega) ?_)
                    refine SeqR.d1 rfl rfl rfl (yl_assign rfl rfl ?_)
                    refine SeqR.done ?_
                    refine tn ?_
                    have hB606 : B_s_l3Bytes_1 p_s p_more k5 k484 (x485) = .cont (true) := by simp only [B_s_l3Bytes_1, hb21, hb22, hb253, hb517, cond_true, cond_false, loopE_done, loopE_ret]
                    have q607 := Ex.trans hf514 hE579
                    exact ⟨p_more.length - (k484 + 1), by omega, k484 + 1, true, rfl, hlt516, (by omega), rfl, rfl, rfl, rfl, rfl, rfl, rfl, rfl, rfl, rfl, rfl, rfl, rfl, rfl, rfl, rfl, rfl, rfl, rfl, q607, (loopM.cont hlt516 hB606).symm.trans hI493⟩
                · skip
                  refine CW.drawsI 11 (vgetI [DetI (.bool (x485)), DetI (.bool (x485)), DetI (.string (bs (p_s))), DetI (.int .i64 ((k5 : Int))), DetI (.int .u8 (((p_s.getD k5 0).toNat : Int))), DetI (.string (bs (p_more))), DetI (.int .i64 ((k484 : Int))), DetI (.int .u8 (((p_more.getD k484 0).toNat : Int))), DetI (.bool (decide (((p_s.getD k5 0).toNat : Int) = ((p_more.getD k484 0).toNat : Int)))), DetI (.bool (decide (((p_s.getD k5 0).toNat : Int) = ((p_more.getD k484 0).toNat : Int)))), DetI (.bool (decide (((p_s.getD k5 0).toNat : Int) = ((p_more.getD k484 0).toNat : Int))))]) Try.follows rfl rfl rfl rfl rfl rfl (vgetI_stable ⟨StableI.det _, StableI.det _, StableI.det _, StableI.det _, StableI.det _, StableI.det _, StableI.det _, StableI.det _, StableI.det _, StableI.det _, StableI.det _, trivial⟩) ⟨?_, ?_, ?_, ?_, ?_, ?_, ?_, ?_, ?_, ?_, ?_, trivial⟩ ?_
                  · intro L608 w609 hi610
                    have hE611 := hi610.ex
                    have hE611z := Ex.size hE611
                    have hx612 := hi610.old 6 _ rfl rfl
                    exact OpR.op' rfl (Yl.sameI (yl_move rfl hx612 ⟨fun _ _ => rfl, rfl⟩))
                  · intro L613 w614 hi615
                    have hE616 := hi615.ex
                    have hE616z := Ex.size hE616
                    obtain ⟨_, _, _, hx617, -, -, -, rfl⟩ := hi615.dep 0 42 rfl rfl
                    exact OpR.op' rfl (Yl.sameI (yl_move rfl hx617 ⟨fun _ _ => rfl, rfl⟩))
                  · intro L618 w619 hi620
                    have hE621 := hi620.ex
                    have hE621z := Ex.size hE621
                    obtain ⟨_, _, _, hx622, -, -, -, rfl⟩ := hi620.dep 1 43 rfl rfl
                    have hx623 := hi620.old 0 _ rfl rfl
                    exact OpR.want rfl rfl hx622 hb517 (Yl.sameI (yl_move rfl hx623 ⟨fun _ _ => rfl, rfl⟩))
                  · intro L624 w625 hi626
                    have hE627 := hi626.ex
                    have hE627z := Ex.size hE627
                    obtain ⟨_, _, _, hx628, -, -, -, rfl⟩ := hi626.dep 1 43 rfl rfl
                    have hx629 := hi626.old 5 _ rfl rfl
                    exact OpR.want rfl rfl hx628 hb517 (Yl.sameI (yl_move rfl hx629 ⟨fun _ _ => rfl, rfl⟩))
                  · intro L630 w631 hi632
                    have hE633 := hi632.ex
                    have hE633z := Ex.size hE633
                    obtain ⟨_, _, _, hx634, -, -, -, rfl⟩ := hi632.dep 1 43 rfl rfl
                    obtain ⟨_, _, _, hx635, -, -, -, rfl⟩ := hi632.dep 2 44 rfl rfl
                    obtain ⟨_, _, _, hx636, -, -, -, rfl⟩ := hi632.dep 3 45 rfl rfl
                    exact OpR.want rfl rfl hx634 hb517 (Yl.sameI (yl_sindexN Try.un9 (a := p_s) rfl hx635 hx636 (by first | omega | assumption | (simp only [IntKind.wrap_i64] at *; omega)) ⟨fun _ _ => rfl, rfl⟩))
                  · intro L637 w638 hi639
                    have hE640 := hi639.ex
                    have hE640z := Ex.size hE640
                    obtain ⟨_, _, _, hx641, -, -, -, rfl⟩ := hi639.dep 1 43 rfl rfl
                    have hx642 := hi639.old 1 _ rfl rfl
                    exact OpR.want rfl rfl hx641 hb517 (Yl.sameI (yl_move rfl hx642 ⟨fun _ _ => rfl, rfl⟩))
                  · intro L643 w644 hi645
                    have hE646 := hi645.ex
                    have hE646z := Ex.size hE646
                    obtain ⟨_, _, _, hx647, -, -, -, rfl⟩ := hi645.dep 1 43 rfl rfl
                    have hx648 := hi645.old 7 _ rfl rfl
                    exact OpR.want rfl rfl hx647 hb517 (Yl.sameI (yl_move rfl hx648 ⟨fun _ _ => rfl, rfl⟩))
                  · intro L649 w650 hi651
                    have hE652 := hi651.ex
                    have hE652z := Ex.size hE652
                    obtain ⟨_, _, _, hx653, -, -, -, rfl⟩ := hi651.dep 1 43 rfl rfl
                    obtain ⟨_, _, _, hx654, -, -, -, rfl⟩ := hi651.dep 5 47 rfl rfl
                    obtain ⟨_, _, _, hx655, -, -, -, rfl⟩ := hi651.dep 6 48 rfl rfl
                    exact OpR.want rfl rfl hx653 hb517 (Yl.sameI (yl_sindexN Try.un9 (a := p_more) rfl hx654 hx655 (by first | omega | assumption | (simp only [IntKind.wrap_i64] at *; omega)) ⟨fun _ _ => rfl, rfl⟩))
                  · intro L656 w657 hi658
                    have hE659 := hi658.ex
                    have hE659z := Ex.size hE659
                    obtain ⟨_, _, _, hx660, -, -, -, rfl⟩ := hi658.dep 1 43 rfl rfl
                    obtain ⟨_, _, _, hx661, -, -, -, rfl⟩ := hi658.dep 4 46 rfl rfl
                    obtain ⟨_, _, _, hx662, -, -, -, rfl⟩ := hi658.dep 7 49 rfl rfl
                    exact OpR.want rfl rfl hx660 hb517 (Yl.sameI (yl_eql rfl hx661 hx662 ⟨fun _ _ => rfl, rfl⟩))
                  · intro L663 w664 hi665
                    have hE666 := hi665.ex
                    have hE666z := Ex.size hE666
                    obtain ⟨_, _, _, hx667, -, -, -, rfl⟩ := hi665.dep 8 50 rfl rfl
                    obtain ⟨_, _, _, hx668, -, -, -, rfl⟩ := hi665.dep 1 43 rfl rfl
                    exact OpR.op' rfl (Yl.sameI (yl_pick_f rfl hx668 hb517 hx667 ⟨fun _ _ => rfl, rfl⟩))
                  · intro L669 w670 hi671
                    have hE672 := hi671.ex
                    have hE672z := Ex.size hE672
                    obtain ⟨_, _, _, hx673, -, -, -, rfl⟩ := hi671.dep 9 51 rfl rfl
                    exact OpR.op' rfl (Yl.sameI (yl_assign rfl hx673 ⟨fun _ _ => rfl, rfl⟩))
                  · intro fl677 fh678 L674 w675 hp676
                    have hE679 := hp676.ex
                    have hE679z := Ex.size hE679
                    have hx680 := hp676.old 0 _ rfl rfl
                    have hx681 := hp676.old 1 _ rfl rfl
                    have hx682 := hp676.old 5 _ rfl rfl
                    have hx683 := hp676.old 7 _ rfl rfl
                    have hx684 := hp676.old 19 _ rfl rfl
                    have hx685 := hp676.old 20 _ rfl rfl
                    have hx686 := hp676.old 21 _ rfl rfl
                    have hx687 := hp676.old 22 _ rfl rfl
                    have hx688 := hp676.old 25 _ rfl rfl
                    have hx689 := hp676.old 26 _ rfl rfl
                    have hx690 := hp676.old 27 _ rfl rfl
                    have hx691 := hp676.old 28 _ rfl rfl
                    have hx692 := hp676.old 29 _ rfl rfl
                    have hx693 := hp676.old 30 _ rfl rfl
                    have hx694 := hp676.old 31 _ rfl rfl
                    have hx695 := hp676.old 32 _ rfl rfl
                    have hx696 := hp676.old 33 _ rfl rfl
                    have hx697 := hp676.old 34 _ rfl rfl
                    obtain ⟨_, hx698, rfl⟩ := hp676.new 2 44 rfl rfl
                    obtain ⟨_, hx699, rfl⟩ := hp676.new 3 45 rfl rfl
                    obtain ⟨_, hx700, rfl⟩ := hp676.new 4 46 rfl rfl
                    obtain ⟨_, hx701, rfl⟩ := hp676.new 5 47 rfl rfl
                    obtain ⟨_, hx702, rfl⟩ := hp676.new 6 48 rfl rfl
                    obtain ⟨_, hx703, rfl⟩ := hp676.new 7 49 rfl rfl
                    obtain ⟨_, hx704, rfl⟩ := hp676.new 8 50 rfl rfl
                    obtain ⟨_, hx705, rfl⟩ := hp676.new 10 6 rfl rfl
                    refine SeqR.done ?_
                    refine bn ?_
                    refine tn ?_
                    refine CW.sub (Sub.cons (d := 0) hx680 (Sub.cons (d := 1) hx681 (Sub.cons (d := 5) hx682 (Sub.cons (d := 6) hx705 (Sub.cons (d := 7) hx683 (Sub.cons (d := 19) hx684 (Sub.cons (d := 20) hx685 (Sub.cons (d := 21) hx686 (Sub.cons (d := 22) hx687 (Sub.cons (d := 25) hx688 (Sub.cons (d := 26) hx689 (Sub.cons (d := 27) hx690 (Sub.cons (d := 28) hx691 (Sub.cons (d := 29) hx692 (Sub.cons (d := 30) hx693 (Sub.cons (d := 31) hx694 (Sub.cons (d := 32) hx695 (Sub.cons (d := 33) hx696 (Sub.cons (d := 34) hx697 (Sub.cons (d := 44) hx698 (Sub.cons (d := 45) hx699 (Sub.cons (d := 46) hx700 (Sub.cons (d := 47) hx701 (Sub.cons (d := 48) hx702 (Sub.cons (d := 49) hx703 (Sub.cons (d := 50) hx704 (Sub.nil _))))))))))))))))))))))))))) ?_
                    refine CW.region ?_
                    refine SeqR.d1 rfl rfl rfl (yl_move rfl rfl ?_)
                    refine SeqR.d1 rfl rfl rfl (yl_inc rfl rfl rfl (by omega) ?_)
                    refine SeqR.d1 rfl rfl rfl (yl_assign rfl rfl ?_)
                    refine SeqR.done ?_
                    refine tn ?_
                    have hB706 : B_s_l3Bytes_1 p_s p_more k5 k484 (x485) = .cont (decide (((p_s.getD k5 0).toNat : Int) = ((p_more.getD k484 0).toNat : Int))) := by simp only [B_s_l3Bytes_1, hb21, hb22, hb253, hb517, cond_true, cond_false, loopE_done, loopE_ret]
                    have q707 := Ex.trans hf514 hE679
                    exact ⟨p_more.length - (k484 + 1), by omega, k484 + 1, decide (((p_s.getD k5 0).toNat : Int) = ((p_more.getD k484 0).toNat : Int)), rfl, hlt516, (by omega), rfl, rfl, rfl, rfl, rfl, rfl, rfl, rfl, rfl, rfl, rfl, rfl, rfl, rfl, rfl, rfl, rfl, rfl, rfl, q707, (loopM.cont hlt516 hB706).symm.trans hI493⟩
              · skip
                refine CW.seq ?_
                refine CW.seq ?_
                refine CW.region ?_
                refine SeqR.d1 rfl rfl rfl (yl_move rfl rfl ?_)
                refine SeqR.d1 rfl rfl rfl (yl_move rfl rfl ?_)
                refine SeqR.d1 rfl rfl rfl (yl_slen Try.un9 (a := p_more) rfl rfl ?_)
                refine SeqR.d1 rfl rfl rfl (yl_lss rfl rfl rfl ?_)
                refine SeqR.done ?_
                refine tn ?_
                refine CW.cond_f rfl (lt_f hlt516) ?_
                refine CW.exit ?_
                refine tx ?_
                refine tx ?_
                have hL708 : loopM (B_s_l3Bytes_1 p_s p_more k5) (p_more.length - 0) 0 (false) = .done (x485) := hI493.symm.trans (loopM.stop hlt516)
                refine bx ?_
                refine tn ?_
                refine CW.seq ?_
                refine CW.region ?_
                refine SeqR.d1 rfl rfl rfl (yl_move rfl rfl ?_)
                refine SeqR.d1 rfl rfl rfl (yl_not rfl rfl ?_)
                refine SeqR.done ?_
                refine tn ?_
                refine bcase (x485) (fun hb709 => ?_) (fun hb709 => ?_)
                · skip
                  refine CW.cond_f rfl (not_t hb709) ?_
                  refine CW.skip ?_
                  refine bn ?_
                  refine tn ?_
                  refine CW.region ?_
                  refine SeqR.d1 rfl rfl rfl (yl_move rfl rfl ?_)
                  refine SeqR.d1 rfl rfl rfl (yl_inc rfl rfl rfl (by omega) ?_)
                  refine SeqR.d1 rfl rfl rfl (yl_assign rfl rfl ?_)
                  refine SeqR.done ?_
                  refine tn ?_
                  have hB710 : B_s_l3Bytes_0 p_s p_more k5 () = .cont () := by simp only [B_s_l3Bytes_0, hb21, hb22, hb253, hb709, hL708, cond_true, cond_false, loopE_done, loopE_ret]
                  exact ⟨p_s.length - (k5 + 1), by omega, k5 + 1, rfl, hlt20, (by omega), rfl, rfl, rfl, hf514, (loopM.cont hlt20 hB710).symm.trans hI13⟩
                · skip
                  refine CW.cond_t rfl (not_f hb709) ?_
                  refine CW.seq ?_
                  refine CW.region ?_
                  refine SeqR.d1 rfl rfl rfl (yl_assign rfl rfl ?_)
                  refine SeqR.done ?_
                  refine tn ?_
                  refine CW.ret ?_
                  refine br ?_
                  refine tr ?_
                  refine tr ?_
                  have hB712 : B_s_l3Bytes_0 p_s p_more k5 () = .ret false := by simp only [B_s_l3Bytes_0, hb21, hb22, hb253, hb709, hL708, cond_true, cond_false, loopE_done, loopE_ret]
                  have hL711 : loopM (B_s_l3Bytes_0 p_s p_more) (p_s.length - 0) 0 () = .ret false := hI13.symm.trans (loopM.ret hlt20 hB712)
                  refine br ?_
                  refine tr ?_
                  refine rr rfl (.cons rfl .nil) ?_
                  have hM713 : (s_l3Bytes p_s p_more) = (false) := by simp only [s_l3Bytes, hb21, hb22, hb253, hb709, hL708, hL711, cond_true, cond_false, loopE_done, loopE_ret]
                  rw [hM713]
                  exact ⟨rfl, hf514⟩
      · have hb21p := dec_f hb21
        refine SeqR.z rfl rfl rfl rfl rfl hb21 ?_
        refine SeqR.z rfl rfl rfl rfl rfl hb21 ?_
        refine SeqR.z rfl rfl rfl rfl rfl hb21 ?_
        refine SeqR.z rfl rfl rfl rfl rfl hb21 ?_
        refine SeqR.d1 rfl rfl rfl (yl_pick_f rfl rfl hb21 rfl ?_)
        refine SeqR.d1 rfl rfl rfl (yl_move rfl rfl ?_)
        refine SeqR.y rfl rfl rfl rfl rfl rfl (yl_move rfl rfl ?_)
        refine SeqR.y rfl rfl rfl rfl rfl rfl (yl_move rfl rfl ?_)
        refine SeqR.y rfl rfl rfl rfl rfl rfl (yl_sindexN Try.un9 (a := p_s) rfl rfl rfl (by first | omega | assumption | (simp only [IntKind.wrap_i64] at *; omega)) ?_)
        refine SeqR.y rfl rfl rfl rfl rfl rfl (yl_geq rfl rfl rfl ?_)
        refine SeqR.y rfl rfl rfl rfl rfl rfl (yl_move rfl rfl ?_)
        refine bcase (decide (48 ≤ ((p_s.getD k5 0).toNat : Int))) (fun hb714 => ?_) (fun hb714 => ?_)
        · have hb714p := dec_t hb714
          refine SeqR.y rfl rfl rfl rfl rfl hb714 (yl_move rfl rfl ?_)
          refine SeqR.y rfl rfl rfl rfl rfl hb714 (yl_move rfl rfl ?_)
          refine SeqR.y rfl rfl rfl rfl rfl hb714 (yl_sindexN Try.un9 (a := p_s) rfl rfl rfl (by first | omega | assumption | (simp only [IntKind.wrap_i64] at *; omega)) ?_)
          refine SeqR.y rfl rfl rfl rfl rfl hb714 (yl_leq rfl rfl rfl ?_)
          refine SeqR.y rfl rfl rfl rfl rfl rfl (yl_pick_t rfl rfl hb714 rfl ?_)
          refine SeqR.d1 rfl rfl rfl (yl_pick_f rfl rfl rfl rfl ?_)
          refine SeqR.d1 rfl rfl rfl (yl_assign rfl rfl ?_)
          refine SeqR.done ?_
          refine tn ?_
          refine CW.seq ?_
          refine CW.seq ?_
          refine CW.region ?_
          refine SeqR.d1 rfl rfl rfl (yl_assign rfl rfl ?_)
          refine SeqR.done ?_
          refine tn ?_
          refine CW.block ?_
          refine CW.loop (fun m717 L718 w719 => ∃ (k715 : Nat) (x716 : Bool), m717 = p_more.length - k715 ∧ k715 ≤ p_more.length ∧ w11.heap.size ≤ w719.heap.size ∧ lkp L718 0 = some (.string (bs (p_s))) ∧ lkp L718 1 = some (.string (bs (p_more))) ∧ lkp L718 5 = some (.int .i64 ((k5 : Int))) ∧ lkp L718 6 = some (.bool (x716)) ∧ lkp L718 7 = some (.int .i64 ((k715 : Int))) ∧ lkp L718 19 = some (undef) ∧ lkp L718 20 = some (undef) ∧ lkp L718 21 = some (undef) ∧ lkp L718 22 = some (undef) ∧ lkp L718 25 = some (.string (bs (p_s))) ∧ lkp L718 26 = some (.int .i64 ((k5 : Int))) ∧ lkp L718 27 = some (.int .u8 (((p_s.getD k5 0).toNat : Int))) ∧ lkp L718 28 = some (.bool (decide (48 ≤ ((p_s.getD k5 0).toNat : Int)))) ∧ lkp L718 29 = some (.bool (decide (48 ≤ ((p_s.getD k5 0).toNat : Int)))) ∧ lkp L718 30 = some (.string (bs (p_s))) ∧ lkp L718 31 = some (.int .i64 ((k5 : Int))) ∧ lkp L718 32 = some (.int .u8 (((p_s.getD k5 0).toNat : Int))) ∧ lkp L718 33 = some (.bool (decide (((p_s.getD k5 0).toNat : Int) ≤ 57))) ∧ lkp L718 34 = some (.bool (decide (((p_s.getD k5 0).toNat : Int) ≤ 57))) ∧ Ex w w719 ∧ loopM (B_s_l3Bytes_1 p_s p_more k5) (p_more.length - k715) k715 (x716) = loopM (B_s_l3Bytes_1 p_s p_more k5) (p_more.length - 0) 0 (decide (((p_s.getD k5 0).toNat : Int) ≤ 57))) (p_more.length - 0) ?_ ?_
          · exact ⟨0, decide (((p_s.getD k5 0).toNat : Int) ≤ 57), rfl, (by omega), Nat.le_refl _, rfl, rfl, rfl, rfl, rfl, rfl, rfl, rfl, rfl, rfl, rfl, rfl, rfl, rfl, rfl, rfl, rfl, rfl, rfl, hf18, rfl⟩
          · rintro m720 L721 w722 ⟨k715, x716, rfl, hk723, hsz725, hl726, hl727, hl728, hl729, hl730, hl731, hl732, hl733, hl734, hl735, hl736, hl737, hl738, hl739, hl740, hl741, hl742, hl743, hl744, hf745, hI724⟩
            refine CW.sub (Sub.cons hl726 (Sub.cons hl727 (Sub.cons hl728 (Sub.cons hl729 (Sub.cons hl730 (Sub.cons hl731 (Sub.cons hl732 (Sub.cons hl733 (Sub.cons hl734 (Sub.cons hl735 (Sub.cons hl736 (Sub.cons hl737 (Sub.cons hl738 (Sub.cons hl739 (Sub.cons hl740 (Sub.cons hl741 (Sub.cons hl742 (Sub.cons hl743 (Sub.cons hl744 (Sub.nil _)))))))))))))))))))) ?_
            have hf745z := Ex.size hf745
            have hbg746 : p_more.length ≤ 1073741824 := o2
            rcases Nat.lt_or_ge k715 p_more.length with hlt747 | hlt747
            · skip
              refine CW.seq ?_
              refine CW.seq ?_
              refine CW.region ?_
              refine SeqR.d1 rfl rfl rfl (yl_move rfl rfl ?_)
              refine SeqR.d1 rfl rfl rfl (yl_move rfl rfl ?_)
              refine SeqR.d1 rfl rfl rfl (yl_slen Try.un9 (a := p_more) rfl rfl ?_)
              refine SeqR.d1 rfl rfl rfl (yl_lss rfl rfl rfl ?_)
              refine SeqR.done ?_
              refine tn ?_
              refine CW.cond_t rfl (lt_t hlt747) ?_
              refine CW.skip ?_
              refine tn ?_
              refine CW.seq ?_
              refine CW.block ?_
              refine bcase (x716) (fun hb748 => ?_) (fun hb748 => ?_)
              · skip
                refine CW.drawsI 11 (vgetI [DetI (.bool (x716)), DetI (.bool (x716)), DetI (undef), DetI (undef), DetI (undef), DetI (undef), DetI (undef), DetI (undef), DetI (undef), DetI (.bool (true)), DetI (.bool (true))]) Try.follows rfl rfl rfl rfl rfl rfl (vgetI_stable ⟨StableI.det _, StableI.det _, StableI.det _, StableI.det _, StableI.det _, StableI.det _, StableI.det _, StableI.det _, StableI.det _, StableI.det _, StableI.det _, trivial⟩) ⟨?_, ?_, ?_, ?_, ?_, ?_, ?_, ?_, ?_, ?_, ?_, trivial⟩ ?_
                · intro L749 w750 hi751
                  have hE752 := hi751.ex
                  have hE752z := Ex.size hE752
                  have hx753 := hi751.old 6 _ rfl rfl
                  exact OpR.op' rfl (Yl.sameI (yl_move rfl hx753 ⟨fun _ _ => rfl, rfl⟩))
                · intro L754 w755 hi756
                  have hE757 := hi756.ex
                  have hE757z := Ex.size hE757
                  obtain ⟨_, _, _, hx758, -, -, -, rfl⟩ := hi756.dep 0 42 rfl rfl
                  exact OpR.op' rfl (Yl.sameI (yl_move rfl hx758 ⟨fun _ _ => rfl, rfl⟩))
                · intro L759 w760 hi761
                  have hE762 := hi761.ex
                  have hE762z := Ex.size hE762
                  obtain ⟨_, _, _, hx763, -, -, -, rfl⟩ := hi761.dep 1 43 rfl rfl
                  exact OpR.skip rfl rfl hx763 hb748 ⟨rfl, Ex.refl _⟩
                · intro L764 w765 hi766
                  have hE767 := hi766.ex
                  have hE767z := Ex.size hE767
                  obtain ⟨_, _, _, hx768, -, -, -, rfl⟩ := hi766.dep 1 43 rfl rfl
                  exact OpR.skip rfl rfl hx768 hb748 ⟨rfl, Ex.refl _⟩
                · intro L769 w770 hi771
                  have hE772 := hi771.ex
                  have hE772z := Ex.size hE772
                  obtain ⟨_, _, _, hx773, -, -, -, rfl⟩ := hi771.dep 1 43 rfl rfl
                  exact OpR.skip rfl rfl hx773 hb748 ⟨rfl, Ex.refl _⟩
                · intro L774 w775 hi776
                  have hE777 := hi776.ex
                  have hE777z := Ex.size hE777
                  obtain ⟨_, _, _, hx778, -, -, -, rfl⟩ := hi776.dep 1 43 rfl rfl
                  exact OpR.skip rfl rfl hx778 hb748 ⟨rfl, Ex.refl _⟩
                · intro L779 w780 hi781
                  have hE782 := hi781.ex
                  have hE782z := Ex.size hE782
                  obtain ⟨_, _, _, hx783, -, -, -, rfl⟩ := hi781.dep 1 43 rfl rfl
                  exact OpR.skip rfl rfl hx783 hb748 ⟨rfl, Ex.refl _⟩
                · intro L784 w785 hi786
                  have hE787 := hi786.ex
                  have hE787z := Ex.size hE787
                  obtain ⟨_, _, _, hx788, -, -, -, rfl⟩ := hi786.dep 1 43 rfl rfl
                  exact OpR.skip rfl rfl hx788 hb748 ⟨rfl, Ex.refl _⟩
                · intro L789 w790 hi791
                  have hE792 := hi791.ex
                  have hE792z := Ex.size hE792
                  obtain ⟨_, _, _, hx793, -, -, -, rfl⟩ := hi791.dep 1 43 rfl rfl
                  exact OpR.skip rfl rfl hx793 hb748 ⟨rfl, Ex.refl _⟩
                · intro L794 w795 hi796
                  have hE797 := hi796.ex
                  have hE797z := Ex.size hE797
                  obtain ⟨_, _, _, hx798, -, -, -, rfl⟩ := hi796.dep 8 50 rfl rfl
                  obtain ⟨_, _, _, hx799, -, -, -, rfl⟩ := hi796.dep 1 43 rfl rfl
                  exact OpR.op' rfl (Yl.sameI (yl_pick_t rfl hx799 hb748 rfl ⟨fun _ _ => rfl, rfl⟩))
                · intro L800 w801 hi802
                  have hE803 := hi802.ex
                  have hE803z := Ex.size hE803
                  obtain ⟨_, _, _, hx804, -, -, -, rfl⟩ := hi802.dep 9 51 rfl rfl
                  exact OpR.op' rfl (Yl.sameI (yl_assign rfl hx804 ⟨fun _ _ => rfl, rfl⟩))
                · intro fl808 fh809 L805 w806 hp807
                  have hE810 := hp807.ex
                  have hE810z := Ex.size hE810
                  have hx811 := hp807.old 0 _ rfl rfl
                  have hx812 := hp807.old 1 _ rfl rfl
                  have hx813 := hp807.old 5 _ rfl rfl
                  have hx814 := hp807.old 7 _ rfl rfl
                  have hx815 := hp807.old 19 _ rfl rfl
                  have hx816 := hp807.old 20 _ rfl rfl
                  have hx817 := hp807.old 21 _ rfl rfl
                  have hx818 := hp807.old 22 _ rfl rfl
                  have hx819 := hp807.old 25 _ rfl rfl
                  have hx820 := hp807.old 26 _ rfl rfl
                  have hx821 := hp807.old 27 _ rfl rfl
                  have hx822 := hp807.old 28 _ rfl rfl
                  have hx823 := hp807.old 29 _ rfl rfl
                  have hx824 := hp807.old 30 _ rfl rfl
                  have hx825 := hp807.old 31 _ rfl rfl
                  have hx826 := hp807.old 32 _ rfl rfl
                  have hx827 := hp807.old 33 _ rfl rfl
                  have hx828 := hp807.old 34 _ rfl rfl
                  obtain ⟨_, hx829, rfl⟩ := hp807.new 2 44 rfl rfl
                  obtain ⟨_, hx830, rfl⟩ := hp807.new 3 45 rfl rfl
                  obtain ⟨_, hx831, rfl⟩ := hp807.new 4 46 rfl rfl
                  obtain ⟨_, hx832, rfl⟩ := hp807.new 5 47 rfl rfl
                  obtain ⟨_, hx833, rfl⟩ := hp807.new 6 48 rfl rfl
                  obtain ⟨_, hx834, rfl⟩ := hp807.new 7 49 rfl rfl
                  obtain ⟨_, hx835, rfl⟩ := hp807.new 8 50 rfl rfl
                  obtain ⟨_, hx836, rfl⟩ := hp807.new 10 6 rfl rfl
                  refine SeqR.done ?_
                  refine bn ?_
                  refine tn ?_
                  refine CW.sub (Sub.cons (d := 0) hx811 (Sub.cons (d := 1) hx812 (Sub.cons (d := 5) hx813 (Sub.cons (d := 6) hx836 (Sub.cons (d := 7) hx814 (Sub.cons (d := 19) hx815 (Sub.cons (d := 20) hx816 (Sub.cons (d := 21) hx817 (Sub.cons (d := 22) hx818 (Sub.cons (d := 25) hx819 (Sub.cons (d := 26) hx820 (Sub.cons (d := 27) hx821 (Sub.cons (d := 28) hx822 (Sub.cons (d := 29) hx823 (Sub.cons (d := 30) hx824 (Sub.cons (d := 31) hx825 (Sub.cons (d := 32) hx826 (Sub.cons (d := 33) hx827 (Sub.cons (d := 34) hx828 (Sub.cons (d := 44) hx829 (Sub.cons (d := 45) hx830 (Sub.cons (d := 46) hx831 (Sub.cons (d := 47) hx832 (Sub.cons (d := 48) hx833 (Sub.cons (d := 49) hx834 (Sub.cons (d := 50) hx835 (Sub.nil _))))))))))))))))))))))))))) ?_
                  refine CW.region ?_
                  refine SeqR.d1 rfl rfl rfl (yl_move rfl rfl ?_)
                  refine SeqR.d1 rfl rfl rfl (yl_inc rfl rfl rfl (by omega) ?_)
                  refine SeqR.d1 rfl rfl rfl (yl_assign rfl rfl ?_)
                  refine SeqR.done ?_
                  refine tn ?_
                  have hB837 : B_s_l3Bytes_1 p_s p_more k5 k715 (x716) = .cont (true) := by simp only [B_s_l3Bytes_1, hb21, hb714, hb748, cond_true, cond_false, loopE_done, loopE_ret]
                  have q838 := Ex.trans hf745 hE810
                  exact ⟨p_more.length - (k715 + 1), by omega, k715 + 1, true, rfl, hlt747, (by omega), rfl, rfl, rfl, rfl, rfl, rfl, rfl, rfl, rfl, rfl, rfl, rfl, rfl, rfl, rfl, rfl, rfl, rfl, rfl, q838, (loopM.cont hlt747 hB837).symm.trans hI724⟩
              · skip
                refine CW.drawsI 11 (vgetI [DetI (.bool (x716)), DetI (.bool (x716)), DetI (.string (bs (p_s))), DetI (.int .i64 ((k5 : Int))), DetI (.int .u8 (((p_s.getD k5 0).toNat : Int))), DetI (.string (bs (p_more))), DetI (.int .i64 ((k715 : Int))), DetI (.int .u8 (((p_more.getD k715 0).toNat : Int))), DetI (.bool (decide (((p_s.getD k5 0).toNat : Int) = ((p_more.getD k715 0).toNat : Int)))), DetI (.bool (decide (((p_s.getD k5 0).toNat : Int) = ((p_more.getD k715 0).toNat : Int)))), DetI (.bool (decide (((p_s.getD k5 0).toNat : Int) = ((p_more.getD k715 0).toNat : Int))))]) Try.follows rfl rfl rfl rfl rfl rfl (vgetI_stable ⟨StableI.det _, StableI.det _, StableI.det _, StableI.det _, StableI.det _, StableI.det _, StableI.det _, StableI.det _, StableI.det _, StableI.det _, StableI.det _, trivial⟩) ⟨?_, ?_, ?_, ?_, ?_, ?_, ?_, ?_, ?_, ?_, ?_, trivial⟩ ?_
                · intro L839 w840 hi841
                  have hE842 := hi841.ex
                  have hE842z := Ex.size hE842
                  have hx843 := hi841.old 6 _ rfl rfl
                  exact OpR.op' rfl (Yl.sameI (yl_move rfl hx843 ⟨fun _ _ => rfl, rfl⟩))
                · intro L844 w845 hi846
                  have hE847 := hi846.ex
                  have hE847z := Ex.size hE847
                  obtain ⟨_, _, _, hx848, -, -, -, rfl⟩ := hi846.dep 0 42 rfl rfl
                  exact OpR.op' rfl (Yl.sameI (yl_move rfl hx848 ⟨fun _ _ => rfl, rfl⟩))
                · intro L849 w850 hi851
                  have hE852 := hi851.ex
                  have hE852z := Ex.size hE852
                  obtain ⟨_, _, _, hx853, -, -, -, rfl⟩ := hi851.dep 1 43 rfl rfl
                  have hx854 := hi851.old 0 _ rfl rfl
                  exact OpR.want rfl rfl hx853 hb748 (Yl.sameI (yl_move rfl hx854 ⟨fun _ _ => rfl, rfl⟩))
                · intro L855 w856 hi857
                  have hE858 := hi857.ex
                  have hE858z := Ex.size hE858
                  obtain ⟨_, _, _, hx859, -, -, -, rfl⟩ := hi857.dep 1 43 rfl rfl
                  have hx860 := hi857.old 5 _ rfl rfl
                  exact OpR.want rfl rfl hx859 hb748 (Yl.sameI (yl_move rfl hx860 ⟨fun _ _ => rfl, rfl⟩))
                · intro L861 w862 hi863
                  have hE864 := hi863.ex
                  have hE864z := Ex.size hE864
                  obtain ⟨_, _, _, hx865, -, -, -, rfl⟩ := hi863.dep 1 43 rfl rfl
                  obtain ⟨_, _, _, hx866, -, -, -, rfl⟩ := hi863.dep 2 44 rfl rfl
                  obtain ⟨_, _, _, hx867, -, -, -, rfl⟩ := hi863.dep 3 45 rfl rfl
                  exact OpR.want rfl rfl hx865 hb748 (Yl.sameI (yl_sindexN Try.un9 (a := p_s) rfl hx866 hx867 (by first | omega | assumption | (simp only [IntKind.wrap_i64] at *; omega)) ⟨fun _ _ => rfl, rfl⟩))
                · intro L868 w869 hi870
                  have hE871 := hi870.ex
                  have hE871z := Ex.size hE871
                  obtain ⟨_, _, _, hx872, -, -, -, rfl⟩ := hi870.dep 1 43 rfl rfl
                  have hx873 := hi870.old 1 _ rfl rfl
                  exact OpR.want rfl rfl hx872 hb748 (Yl.sameI (yl_move rfl hx873 ⟨fun _ _ => rfl, rfl⟩))
                · intro L874 w875 hi876
                  have hE877 := hi876.ex
                  have hE877z := Ex.size hE877
                  obtain ⟨_, _, _, hx878, -, -, -, rfl⟩ := hi876.dep 1 43 rfl rfl
                  have hx879 := hi876.old 7 _ rfl rfl
                  exact OpR.want rfl rfl hx878 hb748 (Yl.sameI (yl_move rfl hx879 ⟨fun _ _ => rfl, rfl⟩))
                · intro L880 w881 hi882
                  have hE883 := hi882.ex
                  have hE883z := Ex.size hE883
                  obtain ⟨_, _, _, hx884, -, -, -, rfl⟩ := hi882.dep 1 43 rfl rfl
                  obtain ⟨_, _, _, hx885, -, -, -, rfl⟩ := hi882.dep 5 47 rfl rfl
                  obtain ⟨_, _, _, hx886, -, -, -, rfl⟩ := hi882.dep 6 48 rfl rfl
                  exact OpR.want rfl rfl hx884 hb748 (Yl.sameI (yl_sindexN Try.un9 (a := p_more) rfl hx885 hx886 (by first | omega | assumption | (simp only [IntKind.wrap_i64] at *; omega)) ⟨fun _ _ => rfl, rfl⟩))
                · intro L887 w888 hi889
                  have hE890 := hi889.ex
                  have hE890z := Ex.size hE890
                  obtain ⟨_, _, _, hx891, -, -, -, rfl⟩ := hi889.dep 1 43 rfl rfl
                  obtain ⟨_, _, _, hx892, -, -, -, rfl⟩ := hi889.dep 4 46 rfl rfl
                  obtain ⟨_, _, _, hx893, -, -, -, rfl⟩ := hi889.dep 7 49 rfl rfl
                  exact OpR.want rfl rfl hx891 hb748 (Yl.sameI (yl_eql rfl hx892 hx893 ⟨fun _ _ => rfl, rfl⟩))
                · intro L894 w895 hi896
                  have hE897 := hi896.ex
                  have hE897z := Ex.size hE897
                  obtain ⟨_, _, _, hx898, -, -, -, rfl⟩ := hi896.dep 8 50 rfl rfl
                  obtain ⟨_, _, _, hx899, -, -, -, rfl⟩ := hi896.dep 1 43 rfl rfl
                  exact OpR.op' rfl (Yl.sameI (yl_pick_f rfl hx899 hb748 hx898 ⟨fun _ _ => rfl, rfl⟩))
                · intro L900 w901 hi902
                  have hE903 := hi902.ex
                  have hE903z := Ex.size hE903
                  obtain ⟨_, _, _, hx904, -, -, -, rfl⟩ := hi902.dep 9 51 rfl rfl
                  exact OpR.op' rfl (Yl.sameI (yl_assign rfl hx904 ⟨fun _ _ => rfl, rfl⟩))
                · intro fl908 fh909 L905 w906 hp907
                  have hE910 := hp907.ex
                  have hE910z := Ex.size hE910
                  have hx911 := hp907.old 0 _ rfl rfl
                  have hx912 := hp907.old 1 _ rfl rfl
                  have hx913 := hp907.old 5 _ rfl rfl
                  have hx914 := hp907.old 7 _ rfl rfl
                  have hx915 := hp907.old 19 _ rfl rfl
                  have hx916 := hp907.old 20 _ rfl rfl
                  have hx917 := hp907.old 21 _ rfl rfl
                  have hx918 := hp907.old 22 _ rfl rfl
                  have hx919 := hp907.old 25 _ rfl rfl
                  have hx920 := hp907.old 26 _ rfl rfl
                  have hx921 := hp907.old 27 _ rfl rfl
                  have hx922 := hp907.old 28 _ rfl rfl
                  have hx923 := hp907.old 29 _ rfl rfl
                  have hx924 := hp907.old 30 _ rfl rfl
                  have hx925 := hp907.old 31 _ rfl rfl
                  have hx926 := hp907.old 32 _ rfl rfl
                  have hx927 := hp907.old 33 _ rfl rfl
                  have hx928 := hp907.old 34 _ rfl rfl
                  obtain ⟨_, hx929, rfl⟩ := hp907.new 2 44 rfl rfl
                  obtain ⟨_, hx930, rfl⟩ := hp907.new 3 45 rfl rfl
                  obtain ⟨_, hx931, rfl⟩ := hp907.new 4 46 rfl rfl
                  obtain ⟨_, hx932, rfl⟩ := hp907.new 5 47 rfl rfl
                  obtain ⟨_, hx933, rfl⟩ := hp907.new 6 48 rfl rfl
                  obtain ⟨_, hx934, rfl⟩ := hp907.new 7 49 rfl rfl
                  obtain ⟨_, hx935, rfl⟩ := hp907.new 8 50 rfl rfl
                  obtain ⟨_, hx936, rfl⟩ := hp907.new 10 6 rfl rfl
                  refine SeqR.done ?_
                  refine bn ?_
                  refine tn ?_
                  refine CW.sub (Sub.cons (d := 0) hx911 (Sub.cons (d := 1) hx912 (Sub.cons (d := 5) hx913 (Sub.cons (d := 6) hx936 (Sub.cons (d := 7) hx914 (Sub.cons (d := 19) hx915 (Sub.cons (d := 20) hx916 (Sub.cons (d := 21) hx917 (Sub.cons (d := 22) hx918 (Sub.cons (d := 25) hx919 (Sub.cons (d := 26) hx920 (Sub.cons (d := 27) hx921 (Sub.cons (d := 28) hx922 (Sub.cons (d := 29) hx923 (Sub.cons (d := 30) hx924 (Sub.cons (d := 31) hx925 (Sub.cons (d := 32) hx926 (Sub.cons (d := 33) hx927 (Sub.cons (d := 34) hx928 (Sub.cons (d := 44) hx929 (Sub.cons (d := 45) hx930 (Sub.cons (d := 46) hx931 (Sub.cons (d := 47) hx932 (Sub.cons (d := 48) hx933 (Sub.cons (d := 49) hx934 (Sub.cons (d := 50) hx935 (Sub.nil _))))))))))))))))))))))))))) ?_
                  refine CW.region ?_
                  refine SeqR.d1 rfl rfl rfl (yl_move rfl rfl ?_)
                  refine SeqR.d1 rfl rfl rfl (yl_inc rfl rfl rfl (by omega) ?_)
                  refine SeqR.d1 rfl rfl rfl (yl_assign rfl rfl ?_)
                  refine SeqR.done ?_
                  refine tn ?_
                  have hB937 : B_s_l3Bytes_1 p_s p_more k5 k715 (x716) = .cont (decide (((p_s.getD k5 0).toNat : Int) = ((p_more.getD k715 0).toNat : Int))) := by simp only [B_s_l3Bytes_1, hb21, hb714, hb748, cond_true, cond_false, loopE_done, loopE_ret]
                  have q938 := Ex.trans hf745 hE910
                  exact ⟨p_more.length - (k715 + 1), by omega, k715 + 1, decide (((p_s.getD k5 0).toNat : Int) = ((p_more.getD k715 0).toNat : Int)), rfl, hlt747, (by omega), rfl, rfl, rfl, rfl, rfl, rfl, rfl, rfl, rfl, rfl, rfl, rfl, rfl, rfl, rfl, rfl, rfl, rfl, rfl, q938, (loopM.cont hlt747 hB937).symm.trans hI724⟩
            · skip
              refine CW.seq ?_
              refine CW.seq ?_
              refine CW.region ?_
              refine SeqR.d1 rfl rfl rfl (yl_move rfl rfl ?_)
              refine SeqR.d1 rfl rfl rfl (yl_move rfl rfl ?_)
              refine SeqR.d1 rfl rfl rfl (yl_slen Try.un9 (a := p_more) rfl rfl ?_)
              refine SeqR.d1 rfl rfl rfl (yl_lss rfl rfl rfl ?_)
              refine SeqR.done ?_
              refine tn ?_
              refine CW.cond_f rfl (lt_f hlt747) ?_
              refine CW.exit ?_
              refine tx ?_
              refine tx ?_
              have hL939 : loopM (B_s_l3Bytes_1 p_s p_more k5) (p_more.length - 0) 0 (decide (((p_s.getD k5 0).toNat : Int) ≤ 57)) = .done (x716) := hI724.symm.trans (loopM.stop hlt747)
              refine bx ?_
              refine tn ?_
              refine CW.seq ?_
              refine CW.region ?_
              refine SeqR.d1 rfl rfl rfl (yl_move rfl rfl ?_)
              refine SeqR.d1 rfl rfl rfl (yl_not rfl rfl ?_)
              refine SeqR.done ?_
              refine tn ?_
              refine bcase (x716) (fun hb940 => ?_) (fun hb940 => ?_)
              · skip
                refine CW.cond_f rfl (not_t hb940) ?_
                refine CW.skip ?_
                refine bn ?_
                refine tn ?_
                refine CW.region ?_
                refine SeqR.d1 rfl rfl rfl (yl_move rfl rfl ?_)
                refine SeqR.d1 rfl rfl rfl (yl_inc rfl rfl rfl (by omega) ?_)
                refine SeqR.d1 rfl rfl rfl (yl_assign rfl rfl ?_)
                refine SeqR.done ?_
                refine tn ?_
                have hB941 : B_s_l3Bytes_0 p_s p_more k5 () = .cont () := by simp only [B_s_l3Bytes_0, hb21, hb714, hb940, hL939, cond_true, cond_false, loopE_done, loopE_ret]
                exact ⟨p_s.length - (k5 + 1), by omega, k5 + 1, rfl, hlt20, (by omega), rfl, rfl, rfl, hf745, (loopM.cont hlt20 hB941).symm.trans hI13⟩
              · skip
                refine CW.cond_t rfl (not_f hb940) ?_
                refine CW.seq ?_
                refine CW.region ?_
                refine SeqR.d1 rfl rfl rfl (yl_assign rfl rfl ?_)
                refine SeqR.done ?_
                refine tn ?_
                refine CW.ret ?_
                refine br ?_
                refine tr ?_
                refine tr ?_
                have hB943 : B_s_l3Bytes_0 p_s p_more k5 () = .ret false := by simp only [B_s_l3Bytes_0, hb21, hb714, hb940, hL939, cond_true, cond_false, loopE_done, loopE_ret]
                have hL942 : loopM (B_s_l3Bytes_0 p_s p_more) (p_s.length - 0) 0 () = .ret false := hI13.symm.trans (loopM.ret hlt20 hB943)
                refine br ?_
                refine tr ?_
                refine rr rfl (.cons rfl .nil) ?_
                have hM944 : (s_l3Bytes p_s p_more) = (false) := by simp only [s_l3Bytes, hb21, hb714, hb940, hL939, hL942, cond_true, cond_false, loopE_done, loopE_ret]
                rw [hM944]
                exact ⟨rfl, hf745⟩
        · have hb714p := dec_f hb714
          refine SeqR.z rfl rfl rfl rfl rfl hb714 ?_
          refine SeqR.z rfl rfl rfl rfl rfl hb714 ?_
          refine SeqR.z rfl rfl rfl rfl rfl hb714 ?_
          refine SeqR.z rfl rfl rfl rfl rfl hb714 ?_
          refine SeqR.y rfl rfl rfl rfl rfl rfl (yl_pick_f rfl rfl hb714 rfl ?_)
          refine SeqR.d1 rfl rfl rfl (yl_pick_f rfl rfl rfl rfl ?_)
          refine SeqR.d1 rfl rfl rfl (yl_assign rfl rfl ?_)
          refine SeqR.done ?_
          refine tn ?_
          refine CW.seq ?_
          refine CW.seq ?_
          refine CW.region ?_
          refine SeqR.d1 rfl rfl rfl (yl_assign rfl rfl ?_)
          refine SeqR.done ?_
          refine tn ?_
          refine CW.block ?_
          refine CW.loop (fun m947 L948 w949 => ∃ (k945 : Nat) (x946 : Bool), m947 = p_more.length - k945 ∧ k945 ≤ p_more.length ∧ w11.heap.size ≤ w949.heap.size ∧ lkp L948 0 = some (.string (bs (p_s))) ∧ lkp L948 1 = some (.string (bs (p_more))) ∧ lkp L948 5 = some (.int .i64 ((k5 : Int))) ∧ lkp L948 6 = some (.bool (x946)) ∧ lkp L948 7 = some (.int .i64 ((k945 : Int))) ∧ lkp L948 19 = some (undef) ∧ lkp L948 20 = some (undef) ∧ lkp L948 21 = some (undef) ∧ lkp L948 22 = some (undef) ∧ lkp L948 25 = some (.string (bs (p_s))) ∧ lkp L948 26 = some (.int .i64 ((k5 : Int))) ∧ lkp L948 27 = some (.int .u8 (((p_s.getD k5 0).toNat : Int))) ∧ lkp L948 28 = some (.bool (decide (48 ≤ ((p_s.getD k5 0).toNat : Int)))) ∧ lkp L948 29 = some (.bool (decide (48 ≤ ((p_s.getD k5 0).toNat : Int)))) ∧ lkp L948 30 = some (undef) ∧ lkp L948 31 = some (undef) ∧ lkp L948 32 = some (undef) ∧ lkp L948 33 = some (undef) ∧ lkp L948 34 = some (.bool (false)) ∧ Ex w w949 ∧ loopM (B_s_l3Bytes_1 p_s p_more k5) (p_more.length - k945) k945 (x946) = loopM (B_s_l3Bytes_1 p_s p_more k5) (p_more.length - 0) 0 (false)) (p_more.length - 0) ?_ ?_
          · exact ⟨0, false, rfl, (by omega), Nat.le_refl _, rfl, rfl, rfl, rfl, rfl, rfl, rfl, rfl, rfl, rfl, rfl, rfl, rfl, rfl, rfl, rfl, rfl, rfl, rfl, hf18, rfl⟩
          · rintro m950 L951 w952 ⟨k945, x946, rfl, hk953, hsz955, hl956, hl957, hl958, hl959, hl960, hl961, hl962, hl963, hl964, hl965, hl966, hl967, hl968, hl969, hl970, hl971, hl972, hl973, hl974, hf975, hI954⟩
            refine CW.sub (Sub.cons hl956 (Sub.cons hl957 (Sub.cons hl958 (Sub.cons hl959 (Sub.cons hl960 (Sub.cons hl961 (Sub.cons hl962 (Sub.cons hl963 (Sub.cons hl964 (Sub.cons hl965 (Sub.cons hl966 (Sub.cons hl967 (Sub.cons hl968 (Sub.cons hl969 (Sub.cons hl970 (Sub.cons hl971 (Sub.cons hl972 (Sub.cons hl973 (Sub.cons hl974 (Sub.nil _)))))))))))))))))))) ?_
            have hf975z := Ex.size hf975
            have hbg976 : p_more.length ≤ 1073741824 := o2
            rcases Nat.lt_or_ge k945 p_more.length with hlt977 | hlt977
            · skip
              refine CW.seq ?_
              refine CW.seq ?_
              refine CW.region ?_
              refine SeqR.d1 rfl rfl rfl (yl_move rfl rfl ?_)
              refine SeqR.d1 rfl rfl rfl (yl_move rfl rfl ?_)
              refine SeqR.d1 rfl rfl rfl (yl_slen Try.un9 (a := p_more) rfl rfl ?_)
              refine SeqR.d1 rfl rfl rfl (yl_lss rfl rfl rfl ?_)
              refine SeqR.done ?_
              refine tn ?_
              refine CW.cond_t rfl (lt_t hlt977) ?_
              refine CW.skip ?_
              refine tn ?_
              refine CW.seq ?_
              refine CW.block ?_
              refine bcase (x946) (fun hb978 => ?_) (fun hb978 => ?_)
              · skip
                refine CW.drawsI 11 (vgetI [DetI (.bool (x946)), DetI (.bool (x946)), DetI (undef), DetI (undef), DetI (undef), DetI (undef), DetI (undef), DetI (undef), DetI (undef), DetI (.bool (true)), DetI (.bool (true))]) Try.follows rfl rfl rfl rfl rfl rfl (vgetI_stable ⟨StableI.det _, StableI.det _, StableI.det _, StableI.det _, StableI.det _, StableI.det _, StableI.det _, StableI.det _, StableI.det _, StableI.det _, StableI.det _, trivial⟩) ⟨?_, ?_, ?_, ?_, ?_, ?_, ?_, ?_, ?_, ?_, ?_, trivial⟩ ?_
                · intro L979 w980 hi981
                  have hE982 := hi981.ex
                  have hE982z := Ex.size hE982
                  have hx983 := hi981.old 6 _ rfl rfl
                  exact OpR.op' rfl (Yl.sameI (yl_move rfl hx983 ⟨fun _ _ => rfl, rfl⟩))
                · intro L984 w985 hi986
                  have hE987 := hi986.ex
                  have hE987z := Ex.size hE987
                  obtain ⟨_, _, _, hx988, -, -, -, rfl⟩ := hi986.dep 0 42 rfl rfl
                  exact OpR.op' rfl (Yl.sameI (yl_move rfl hx988 ⟨fun _ _ => rfl, rfl⟩))
                · intro L989 w990 hi991
                  have hE992 := hi991.ex
                  have hE992z := Ex.size hE992
                  obtain ⟨_, _, _, hx993, -, -, -, rfl⟩ := hi991.dep 1 43 rfl rfl
                  exact OpR.skip rfl rfl hx993 hb978 ⟨rfl, Ex.refl _⟩
                · intro L994 w995 hi996
                  have hE997 := hi996.ex
                  have hE997z := Ex.size hE997
                  obtain ⟨_, _, _, hx998, -, -, -, rfl⟩ := hi996.dep 1 43 rfl rfl
                  exact OpR.skip rfl rfl hx998 hb978 ⟨rfl, Ex.refl _⟩
                · intro L999 w1000 hi1001
                  have hE1002 := hi1001.ex
                  have hE1002z := Ex.size hE1002
                  obtain ⟨_, _, _, hx1003, -, -, -, rfl⟩ := hi1001.dep 1 43 rfl rfl
                  exact OpR.skip rfl rfl hx1003 hb978 ⟨rfl, Ex.refl _⟩
                · intro L1004 w1005 hi1006
                  have hE1007 := hi1006.ex
                  have hE1007z := Ex.size hE1007
                  obtain ⟨_, _, _, hx1008, -, -, -, rfl⟩ := hi1006.dep 1 43 rfl rfl
                  exact OpR.skip rfl rfl hx1008 hb978 ⟨rfl, Ex.refl _⟩
                · intro L1009 w1010 hi1011
                  have hE1012 := hi1011.ex
                  have hE1012z := Ex.size hE1012
                  obtain ⟨_, _, _, hx1013, -, -, -, rfl⟩ := hi1011.dep 1 43 rfl rfl
                  exact OpR.skip rfl rfl hx1013 hb978 ⟨rfl, Ex.refl _⟩
                · intro L1014 w1015 hi1016
                  have hE1017 := hi1016.ex
                  have hE1017z := Ex.size hE1017
                  obtain ⟨_, _, _, hx1018, -, -, -, rfl⟩ := hi1016.dep 1 43 rfl rfl
                  exact OpR.skip rfl rfl hx1018 hb978 ⟨rfl, Ex.refl _⟩
                · intro L1019 w1020 hi1021
                  have hE1022 := hi1021.ex
                  have hE1022z := Ex.size hE1022
                  obtain ⟨_, _, _, hx1023, -, -, -, rfl⟩ := hi1021.dep 1 43 rfl rfl
                  exact OpR.skip rfl rfl hx1023 hb978 ⟨rfl, Ex.refl _⟩
                · intro L1024 w1025 hi1026
                  have hE1027 := hi1026.ex
                  have hE1027z := Ex.size hE1027
                  obtain ⟨_, _, _, hx1028, -, -, -, rfl⟩ := hi1026.dep 8 50 rfl rfl
                  obtain ⟨_, _, _, hx1029, -, -, -, rfl⟩ := hi1026.dep 1 43 rfl rfl
                  exact OpR.op' rfl (Yl.sameI (yl_pick_t rfl hx1029 hb978 rfl ⟨fun _ _ => rfl, rfl⟩))
                · intro L1030 w1031 hi1032
                  have hE1033 := hi1032.ex
                  have hE1033z := Ex.size hE1033
                  obtain ⟨_, _, _, hx1034, -, -, -, rfl⟩ := hi1032.dep 9 51 rfl rfl
                  exact OpR.op' rfl (Yl.sameI (yl_assign rfl hx1034 ⟨fun _ _ => rfl, rfl⟩))
                · intro fl1038 fh1039 L1035 w1036 hp1037
                  have hE1040 := hp1037.ex
                  have hE1040z := Ex.size hE1040
                  have hx1041 := hp1037.old 0 _ rfl rfl
                  have hx1042 := hp1037.old 1 _ rfl rfl
                  have hx1043 := hp1037.old 5 _ rfl rfl
                  have hx1044 := hp1037.old 7 _ rfl rfl
                  have hx1045 := hp1037.old 19 _ rfl rfl
                  have hx1046 := hp1037.old 20 _ rfl rfl
                  have hx1047 := hp1037.old 21 _ rfl rfl
                  have hx1048 := hp1037.old 22 _ rfl rfl
                  have hx1049 := hp1037.old 25 _ rfl rfl
                  have hx1050 := hp1037.old 26 _ rfl rfl
                  have hx1051 := hp1037.old 27 _ rfl rfl
                  have hx1052 := hp1037.old 28 _ rfl rfl
                  have hx1053 := hp1037.old 29 _ rfl rfl
                  have hx1054 := hp1037.old 30 _ rfl rfl
                  have hx1055 := hp1037.old 31 _ rfl rfl
                  have hx1056 := hp1037.old 32 _ rfl rfl
                  have hx1057 := hp1037.old 33 _ rfl rfl
                  have hx1058 := hp1037.old 34 _ rfl rfl
                  obtain ⟨_, hx1059, rfl⟩ := hp1037.new 2 44 rfl rfl
                  obtain ⟨_, hx1060, rfl⟩ := hp1037.new 3 45 rfl rfl
                  obtain ⟨_, hx1061, rfl⟩ := hp1037.new 4 46 rfl rfl
                  obtain ⟨_, hx1062, rfl⟩ := hp1037.new 5 47 rfl rfl
                  obtain ⟨_, hx1063, rfl⟩ := hp1037.new 6 48 rfl rfl
                  obtain ⟨_, hx1064, rfl⟩ := hp1037.new 7 49 rfl rfl
                  obtain ⟨_, hx1065, rfl⟩ := hp1037.new 8 50 rfl rfl
                  obtain ⟨_, hx1066, rfl⟩ := hp1037.new 10 6 rfl rfl
                  refine SeqR.done ?_
                  refine bn ?_
                  refine tn ?_
                  refine CW.sub (Sub.cons (d := 0) hx1041 (Sub.cons (d := 1) hx1042 (Sub.cons (d := 5) hx1043 (Sub.cons (d := 6) hx1066 (Sub.cons (d := 7) hx1044 (Sub.cons (d := 19) hx1045 (Sub.cons (d := 20) hx1046 (Sub.cons (d := 21) hx1047 (Sub.cons (d := 22) hx1048 (Sub.cons (d := 25) hx1049 (Sub.cons (d := 26) hx1050 (Sub.cons (d := 27) hx1051 (Sub.cons (d := 28) hx1052 (Sub.cons (d := 29) hx1053 (Sub.cons (d := 30) hx1054 (Sub.cons (d := 31) hx1055 (Sub.cons (d := 32) hx1056 (Sub.cons (d := 33) hx1057 (Sub.cons (d := 34) hx1058 (Sub.cons (d := 44) hx1059 (Sub.cons (d := 45) hx1060 (Sub.cons (d := 46) hx1061 (Sub.cons (d := 47) hx1062 (Sub.cons (d := 48) hx1063 (Sub.cons (d := 49) hx1064 (Sub.cons (d := 50) hx1065 (Sub.nil _))))))))))))))))))))))))))) ?_
                  refine CW.region ?_
                  refine SeqR.d1 rfl rfl rfl (yl_move rfl rfl ?_)
                  refine SeqR.d1 rfl rfl rfl (yl_inc rfl rfl rfl (by omega) ?_)
                  refine SeqR.d1 rfl rfl rfl (yl_assign rfl rfl ?_)
                  refine SeqR.done ?_
                  refine tn ?_
                  have hB1067 : B_s_l3Bytes_1 p_s p_more k5 k945 (x946) = .cont (true) := by simp only [B_s_l3Bytes_1, hb21, hb714, hb978, cond_true, cond_false, loopE_done, loopE_ret]
                  have q1068 := Ex.trans hf975 hE1040
                  exact ⟨p_more.length - (k945 + 1), by omega, k945 + 1, true, rfl, hlt977, (by omega), rfl, rfl, rfl, rfl, rfl, rfl, rfl, rfl, rfl, rfl, rfl, rfl, rfl, rfl, rfl, rfl, rfl, rfl, rfl, q1068, (loopM.cont hlt977 hB1067).symm.trans hI954⟩
              · skip
                refine CW.drawsI 11 (vgetI [DetI (.bool (x946)), DetI (.bool (x946)), DetI (.string (bs (p_s))), DetI (.int .i64 ((k5 : Int))), DetI (.int .u8 (((p_s.getD k5 0).toNat : Int))), DetI (.string (bs (p_more))), DetI (.int .i64 ((k945 : Int))), DetI (.int .u8 (((p_more.getD k945 0).toNat : Int))), DetI (.bool (decide (((p_s.getD k5 0).toNat : Int) = ((p_more.getD k945 0).toNat : Int)))), DetI (.bool (decide (((p_s.getD k5 0).toNat : Int) = ((p_more.getD k945 0).toNat : Int)))), DetI (.bool (decide (((p_s.getD k5 0).toNat : Int) = ((p_more.getD k945 0).toNat : Int))))]) Try.follows rfl rfl rfl rfl rfl rfl (vgetI_stable ⟨StableI.det _, StableI.det _, StableI.det _, StableI.det _, StableI.det _, StableI.det _, StableI.det _, StableI.det _, StableI.det _, StableI.det _, StableI.det _, trivial⟩) ⟨?_, ?_, ?_, ?_, ?_, ?_, ?_, ?_, ?_, ?_, ?_, trivial⟩ ?_
                · intro L1069 w1070 hi1071
                  have hE1072 := hi1071.ex
                  have hE1072z := Ex.size hE1072
                  have hx1073 := hi1071.old 6 _ rfl rfl
                  exact OpR.op' rfl (Yl.sameI (yl_move rfl hx1073 ⟨fun _ _ => rfl, rfl⟩))
                · intro L1074 w1075 hi1076
                  have hE1077 := hi1076.ex
                  have hE1077z := Ex.size hE1077
                  obtain ⟨_, _, _, hx1078, -, -, -, rfl⟩ := hi1076.dep 0 42 rfl rfl
                  exact OpR.op' rfl (Yl.sameI (yl_move rfl hx1078 ⟨fun _ _ => rfl, rfl⟩))
                · intro L1079 w1080 hi1081
                  have hE1082 := hi1081.ex
                  have hE1082z := Ex.size hE1082
                  obtain ⟨_, _, _, hx1083, -, -, -, rfl⟩ := hi1081.dep 1 43 rfl rfl
                  have hx1084 := hi1081.old 0 _ rfl rfl
                  exact OpR.want rfl rfl hx1083 hb978 (Yl.sameI (yl_move rfl hx1084 ⟨fun _ _ => rfl, rfl⟩))
                · intro L1085 w1086 hi1087
                  have hE1088 := hi1087.ex
                  have hE1088z := Ex.size hE1088
                  obtain ⟨_, _, _, hx1089, -, -, -, rfl⟩ := hi1087.dep 1 43 rfl rfl
                  have hx1090 := hi1087.old 5 _ rfl rfl
                  exact OpR.want rfl rfl hx1089 hb978 (Yl.sameI (yl_move rfl hx1090 ⟨fun _ _ => rfl, rfl⟩))
                · intro L1091 w1092 hi1093
                  have hE1094 := hi1093.ex
                  have hE1094z := Ex.size hE1094
                  obtain ⟨_, _, _, hx1095, -, -, -, rfl⟩ := hi1093.dep 1 43 rfl rfl
                  obtain ⟨_, _, _, hx1096, -, -, -, rfl⟩ := hi1093.dep 2 44 rfl rfl
                  obtain ⟨_, _, _, hx1097, -, -, -, rfl⟩ := hi1093.dep 3 45 rfl rfl
                  exact OpR.want rfl rfl hx1095 hb978 (Yl.sameI (yl_sindexN Try.un9 (a := p_s) rfl hx1096 hx1097 (by first | omega | assumption | (simp only [IntKind.wrap_i64] at *; omega)) ⟨fun _ _ => rfl, rfl⟩))
                · intro L1098 w1099 hi1100
                  have hE1101 := hi1100.ex
                  have hE1101z := Ex.size hE1101
                  obtain ⟨_, _, _, hx1102, -, -, -, rfl⟩ := hi1100.dep 1 43 rfl rfl
                  have hx1103 := hi1100.old 1 _ rfl rfl
                  exact OpR.want rfl rfl hx1102 hb978 (Yl.sameI (yl_move rfl hx1103 ⟨fun _ _ => rfl, rfl⟩))
                · intro L1104 w1105 hi1106
                  have hE1107 := hi1106.ex
                  have hE1107z := Ex.size hE1107
                  obtain ⟨_, _, _, hx1108, -, -, -, rfl⟩ := hi1106.dep 1 43 rfl rfl
                  have hx1109 := hi1106.old 7 _ rfl rfl
                  exact OpR.want rfl rfl hx1108 hb978 (Yl.sameI (yl_move rfl hx1109 ⟨fun _ _ => rfl, rfl⟩))
                · intro L1110 w1111 hi1112
                  have hE1113 := hi1112.ex
                  have hE1113z := Ex.size hE1113
                  obtain ⟨_, _, _, hx1114, -, -, -, rfl⟩ := hi1112.dep 1 43 rfl rfl
                  obtain ⟨_, _, _, hx1115, -, -, -, rfl⟩ := hi1112.dep 5 47 rfl rfl
                  obtain ⟨_, _, _, hx1116, -, -, -, rfl⟩ := hi1112.dep 6 48 rfl rfl
                  exact OpR.want rfl rfl hx1114 hb978 (Yl.sameI (yl_sindexN Try.un9 (a := p_more) rfl hx1115 hx1116 (by first | omega | assumption | (simp only [IntKind.wrap_i64] at *; omega)) ⟨fun _ _ => rfl, rfl⟩))
                · intro L1117 w1118 hi1119
                  have hE1120 := hi1119.ex
                  have hE1120z := Ex.size hE1120
                  obtain ⟨_, _, _, hx1121, -, -, -, rfl⟩ := hi1119.dep 1 43 rfl rfl
                  obtain ⟨_, _, _, hx1122, -, -, -, rfl⟩ := hi1119.dep 4 46 rfl rfl
                  obtain ⟨_, _, _, hx1123, -, -, -, rfl⟩ := hi1119.dep 7 49 rfl rfl
                  exact OpR.want rfl rfl hx1121 hb978 (Yl.sameI (yl_eql rfl hx1122 hx1123 ⟨fun _ _ => rfl, rfl⟩))
                · intro L1124 w1125 hi1126
                  have hE1127 := hi1126.ex
                  have hE1127z := Ex.size hE1127
                  obtain ⟨_, _, _, hx1128, -, -, -, rfl⟩ := hi1126.dep 8 50 rfl rfl
                  obtain ⟨_, _, _, hx1129, -, -, -, rfl⟩ := hi1126.dep 1 43 rfl rfl
                  exact OpR.op' rfl (Yl.sameI (yl_pick_f rfl hx1129 hb978 hx1128 ⟨fun _ _ => rfl, rfl⟩))
                · intro L1130 w1131 hi1132
                  have hE1133 := hi1132.ex
                  have hE1133z := Ex.size hE1133
                  obtain ⟨_, _, _, hx1134, -, -, -, rfl⟩ := hi1132.dep 9 51 rfl rfl
                  exact OpR.op' rfl (Yl.sameI (yl_assign rfl hx1134 ⟨fun _ _ => rfl, rfl⟩))
                · intro fl1138 fh1139 L1135 w1136 hp1137
                  have hE1140 := hp1137.ex
                  have hE1140z := Ex.size hE1140
                  have hx1141 := hp1137.old 0 _ rfl rfl
                  have hx1142 := hp1137.old 1 _ rfl rfl
                  have hx1143 := hp1137.old 5 _ rfl rfl
                  have hx1144 := hp1137.old 7 _ rfl rfl
                  have hx1145 := hp1137.old 19 _ rfl rfl
                  have hx1146 := hp1137.old 20 _ rfl rfl
                  have hx1147 := hp1137.old 21 _ rfl rfl
                  have hx1148 := hp1137.old 22 _ rfl rfl
                  have hx1149 := hp1137.old 25 _ rfl rfl
                  have hx1150 := hp1137.old 26 _ rfl rfl
                  have hx1151 := hp1137.old 27 _ rfl rfl
                  have hx1152 := hp1137.old 28 _ rfl rfl
                  have hx1153 := hp1137.old 29 _ rfl rfl
                  have hx1154 := hp1137.old 30 _ rfl rfl
                  have hx1155 := hp1137.old 31 _ rfl rfl
                  have hx1156 := hp1137.old 32 _ rfl rfl
                  have hx1157 := hp1137.old 33 _ rfl rfl
                  have hx1158 := hp1137.old 34 _ rfl rfl
                  obtain ⟨_, hx1159, rfl⟩ := hp1137.new 2 44 rfl rfl
                  obtain ⟨_, hx1160, rfl⟩ := hp1137.new 3 45 rfl rfl
                  obtain ⟨_, hx1161, rfl⟩ := hp1137.new 4 46 rfl rfl
                  obtain ⟨_, hx1162, rfl⟩ := hp1137.new 5 47 rfl rfl
                  obtain ⟨_, hx1163, rfl⟩ := hp1137.new 6 48 rfl rfl
                  obtain ⟨_, hx1164, rfl⟩ := hp1137.new 7 49 rfl rfl
                  obtain ⟨_, hx1165, rfl⟩ := hp1137.new 8 50 rfl rfl
                  obtain ⟨_, hx1166, rfl⟩ := hp1137.new 10 6 rfl rfl
                  refine SeqR.done ?_
                  refine bn ?_
                  refine tn ?_
                  refine CW.sub (Sub.cons (d := 0) hx1141 (Sub.cons (d := 1) hx1142 (Sub.cons (d := 5) hx1143 (Sub.cons (d := 6) hx1166 (Sub.cons (d := 7) hx1144 (Sub.cons (d := 19) hx1145 (Sub.cons (d := 20) hx1146 (Sub.cons (d := 21) hx1147 (Sub.cons (d := 22) hx1148 (Sub.cons (d := 25) hx1149 (Sub.cons (d := 26) hx1150 (Sub.cons (d := 27) hx1151 (Sub.cons (d := 28) hx1152 (Sub.cons (d := 29) hx1153 (Sub.cons (d := 30) hx1154 (Sub.cons (d := 31) hx1155 (Sub.cons (d := 32) hx1156 (Sub.cons (d := 33) hx1157 (Sub.cons (d := 34) hx1158 (Sub.cons (d := 44) hx1159 (Sub.cons (d := 45) hx1160 (Sub.cons (d := 46) hx1161 (Sub.cons (d := 47) hx1162 (Sub.cons (d := 48) hx1163 (Sub.cons (d := 49) hx1164 (Sub.cons (d := 50) hx1165 (Sub.nil _))))))))))))))))))))))))))) ?_
                  refine CW.region ?_
                  refine SeqR.d1 rfl rfl rfl (yl_move rfl rfl ?_)
                  refine SeqR.d1 rfl rfl rfl (yl_inc rfl rfl rfl (by omega) ?_)
                  refine SeqR.d1 rfl rfl rfl (yl_assign rfl rfl ?_)
                  refine SeqR.done ?_
                  refine tn ?_
                  have hB1167 : B_s_l3Bytes_1 p_s p_more k5 k945 (x946) = .cont (decide (((p_s.getD k5 0).toNat : Int) = ((p_more.getD k945 0).toNat : Int))) := by simp only [B_s_l3Bytes_1, hb21, hb714, hb978, cond_true, cond_false, loopE_done, loopE_ret]
                  have q1168 := Ex.trans hf975 hE1140
                  exact ⟨p_more.length - (k945 + 1), by omega, k945 + 1, decide (((p_s.getD k5 0).toNat : Int) = ((p_more.getD k945 0).toNat : Int)), rfl, hlt977, (by omega), rfl, rfl, rfl, rfl, rfl, rfl, rfl, rfl, rfl, rfl, rfl, rfl, rfl, rfl, rfl, rfl, rfl, rfl, rfl, q1168, (loopM.cont hlt977 hB1167).symm.trans hI954⟩
            · skip
              refine CW.seq ?_
              refine CW.seq ?_
              refine CW.region ?_
              refine SeqR.d1 rfl rfl rfl (yl_move rfl rfl ?_)
              refine SeqR.d1 rfl rfl rfl (yl_move rfl rfl ?_)
              refine SeqR.d1 rfl rfl rfl (yl_slen Try.un9 (a := p_more) rfl rfl ?_)
              refine SeqR.d1 rfl rfl rfl (yl_lss rfl rfl rfl ?_)
              refine SeqR.done ?_
              refine tn ?_
              refine CW.cond_f rfl (lt_f hlt977) ?_
              refine CW.exit ?_
              refine tx ?_
              refine tx ?_
              have hL1169 : loopM (B_s_l3Bytes_1 p_s p_more k5) (p_more.length - 0) 0 (false) = .done (x946) := hI954.symm.trans (loopM.stop hlt977)
              refine bx ?_
              refine tn ?_
              refine CW.seq ?_
              refine CW.region ?_
              refine SeqR.d1 rfl rfl rfl (yl_move rfl rfl ?_)
              refine SeqR.d1 rfl rfl rfl (yl_not rfl rfl ?_)
              refine SeqR.done ?_
              refine tn ?_
              refine bcase (x946) (fun hb1170 => ?_) (fun hb1170 => ?_)
              · skip
                refine CW.cond_f rfl (not_t hb1170) ?_
                refine CW.skip ?_
                refine bn ?_
                refine tn ?_
                refine CW.region ?_
                refine SeqR.d1 rfl rfl rfl (yl_move rfl rfl ?_)
                refine SeqR.d1 rfl rfl rfl (yl_inc rfl rfl rfl (by omega) ?_)
                refine SeqR.d1 rfl rfl rfl (yl_assign rfl rfl ?_)
                refine SeqR.done ?_
                refine tn ?_
                have hB1171 : B_s_l3Bytes_0 p_s p_more k5 () = .cont () := by simp only [B_s_l3Bytes_0, hb21, hb714, hb1170, hL1169, cond_true, cond_false, loopE_done, loopE_ret]
                exact ⟨p_s.length - (k5 + 1), by omega, k5 + 1, rfl, hlt20, (by omega), rfl, rfl, rfl, hf975, (loopM.cont hlt20 hB1171).symm.trans hI13⟩
              · skip
                refine CW.cond_t rfl (not_f hb1170) ?_
                refine CW.seq ?_
                refine CW.region ?_
                refine SeqR.d1 rfl rfl rfl (yl_assign rfl rfl ?_)
                refine SeqR.done ?_
                refine tn ?_
                refine CW.ret ?_
                refine br ?_
                refine tr ?_
                refine tr ?_
                have hB1173 : B_s_l3Bytes_0 p_s p_more k5 () = .ret false := by simp only [B_s_l3Bytes_0, hb21, hb714, hb1170, hL1169, cond_true, cond_false, loopE_done, loopE_ret]
                have hL1172 : loopM (B_s_l3Bytes_0 p_s p_more) (p_s.length - 0) 0 () = .ret false := hI13.symm.trans (loopM.ret hlt20 hB1173)
                refine br ?_
                refine tr ?_
                refine rr rfl (.cons rfl .nil) ?_
                have hM1174 : (s_l3Bytes p_s p_more) = (false) := by simp only [s_l3Bytes, hb21, hb714, hb1170, hL1169, hL1172, cond_true, cond_false, loopE_done, loopE_ret]
                rw [hM1174]
                exact ⟨rfl, hf975⟩
    · skip
      refine CW.seq ?_
      refine CW.seq ?_
      refine CW.region ?_
      refine SeqR.d1 rfl rfl rfl (yl_move rfl rfl ?_)
      refine SeqR.d1 rfl rfl rfl (yl_move rfl rfl ?_)
      refine SeqR.d1 rfl rfl rfl (yl_slen Try.un9 (a := p_s) rfl rfl ?_)
      refine SeqR.d1 rfl rfl rfl (yl_lss rfl rfl rfl ?_)
      refine SeqR.done ?_
      refine tn ?_
      refine CW.cond_f rfl (lt_f hlt20) ?_
      refine CW.exit ?_
      refine tx ?_
      refine tx ?_
      have hL1175 : loopM (B_s_l3Bytes_0 p_s p_more) (p_s.length - 0) 0 () = .done () := hI13.symm.trans (loopM.stop hlt20)
      refine bx ?_
      refine tn ?_
      refine CW.seq ?_
      refine CW.region ?_
      refine SeqR.d1 rfl rfl rfl (yl_assign rfl rfl ?_)
      refine SeqR.done ?_
      refine tn ?_
      refine CW.ret ?_
      refine rr rfl (.cons rfl .nil) ?_
      have hM1176 : (s_l3Bytes p_s p_more) = (true) := by simp only [s_l3Bytes, hL1175, cond_true, cond_false, loopE_done, loopE_ret]
      rw [hM1176]
      exact ⟨rfl, hf18⟩
set_option maxRecDepth 100000 in
set_option maxHeartbeats 2000000 in
theorem c_s_l25Field {w : World} (p_s : Str) (o1 : okS p_s) : Cal Try.prog 147 #[.string (bs (p_s))] w fun v w' => v = .bool ((s_l25Field p_s)) ∧ Ex w w' := by
  have hol2 : p_s.length ≤ 1073741824 := o1
  refine Cal.of (vs := [.string (bs (p_s))]) Try.func147 rfl Try.ntmps147 rfl ?_
  refine CW.seq ?_
  refine CW.region ?_
  refine SeqR.d1 rfl rfl rfl (yl_assign rfl rfl ?_)
  refine SeqR.done ?_
  refine tn ?_
  refine CW.seq ?_
  refine CW.region ?_
  refine SeqR.d1 rfl rfl rfl (yl_move rfl rfl ?_)
  refine SeqR.d1 rfl rfl rfl (yl_slen Try.un9 (a := p_s) rfl rfl ?_)
  refine SeqR.d1 rfl rfl rfl (yl_call Try.en124 rfl (opvs_cons rfl (opvs_cons rfl (opvs_cons rfl opvs_nil))) (Cal.mono (c_s_l1In (p_s.length : Int) 1 3) ?_))
  rintro v4 w3 ⟨rfl, hE5⟩
  have hE5z := Ex.size hE5
  refine SeqR.d1 rfl rfl rfl (yl_move rfl rfl ?_)
  refine bcase (s_l1In (p_s.length : Int) 1 3) (fun hb6 => ?_) (fun hb6 => ?_)
  · have hb6p := f_l1In hb6
    refine SeqR.y rfl rfl rfl rfl rfl hb6 (yl_move rfl rfl ?_)
    refine SeqR.y rfl rfl rfl rfl rfl hb6 (yl_call Try.en189 rfl (opvs_cons rfl (opvs_cons rfl opvs_nil)) (Cal.mono (c_s_l3Bytes p_s ([] : Str) o1 (by unfold okS; decide)) ?_))
    rintro v8 w7 ⟨rfl, hE9⟩
    have hE9z := Ex.size hE9
    refine SeqR.d1 rfl rfl rfl (yl_pick_t rfl rfl hb6 rfl ?_)
    refine SeqR.d1 rfl rfl rfl (yl_assign rfl rfl ?_)
    refine SeqR.done ?_
    refine tn ?_
    refine CW.ret ?_
    refine rr rfl (.cons rfl .nil) ?_
    have hM10 : (s_l25Field p_s) = ((s_l3Bytes p_s ([] : Str))) := by simp only [s_l25Field, hb6, cond_true, cond_false, loopE_done, loopE_ret]
    rw [hM10]
    have q11 := Ex.trans (Ex.refl w) hE5
    have q12 := Ex.trans q11 hE9
    exact ⟨rfl, q12⟩
  · skip
    refine SeqR.z rfl rfl rfl rfl rfl hb6 ?_
    refine SeqR.z rfl rfl rfl rfl rfl hb6 ?_
    refine SeqR.d1 rfl rfl rfl (yl_pick_f rfl rfl hb6 rfl ?_)
    refine SeqR.d1 rfl rfl rfl (yl_assign rfl rfl ?_)
    refine SeqR.done ?_
    refine tn ?_
    refine CW.ret ?_
    refine rr rfl (.cons rfl .nil) ?_
    have hM13 : (s_l25Field p_s) = (false) := by simp only [s_l25Field, hb6, cond_true, cond_false, loopE_done, loopE_ret]
    rw [hM13]
    have q14 := Ex.trans (Ex.refl w) hE5
    exact ⟨rfl, q14⟩
set_option maxRecDepth 100000 in
set_option maxHeartbeats 2000000 in
theorem c_s_l25Good {A1 : Option Addr} {c1 : Nat} {A2 : Option Addr} {c2 : Nat} {A4 : Option Addr} {c4 : Nat} {w : World} (p_t : DTable) (p_r : DRow) (h1 : RdS w (Iv 0 w.heap.size) (RF e_Str) 1 A1 p_t.Cols.length c1 p_t.Cols) (h2 : RdS w (Iv 0 w.heap.size) (RF e_Idx) 3 A2 p_t.Idxs.length c2 p_t.Idxs) (h4 : RdS w (Iv 0 w.heap.size) (RF e_Str) 1 A4 p_r.Vals.length c4 p_r.Vals) (o3 : ok_Table p_t) (o5 : ok_Row p_r) : Cal Try.prog 87 #[.agg #[.string (bs (p_t.Name)), .slice A1 p_t.Cols.length c1, .slice A2 p_t.Idxs.length c2], .agg #[.slice A4 p_r.Vals.length c4]] w fun v w' => v = .bool ((s_l25Good p_t p_r)) ∧ Ex w w' := by
  have hol6 : p_t.Name.length ≤ 1073741824 := o3.1
  have hol7 := o3.2.1.1
  have hol8 := o3.2.2.1
  have hol9 := o5.1
  refine Cal.of (vs := [.agg #[.string (bs (p_t.Name)), .slice A1 p_t.Cols.length c1, .slice A2 p_t.Idxs.length c2], .agg #[.slice A4 p_r.Vals.length c4]]) Try.func87 rfl Try.ntmps87 rfl ?_
  refine CW.seq ?_
  refine CW.region ?_
  refine SeqR.d1 rfl rfl rfl (yl_box (cs := [.string (bs (p_t.Name)), .slice A1 p_t.Cols.length c1, .slice A2 p_t.Idxs.length c2]) rfl rfl rfl ?_)
  intro b10 w11 hs12 hz13 hB14 hE15
  refine SeqR.d1 rfl rfl rfl (yl_box (cs := [.slice A4 p_r.Vals.length c4]) rfl rfl rfl ?_)
  intro b16 w17 hs18 hz19 hB20 hE21
  refine SeqR.d1 rfl rfl rfl (yl_assign rfl rfl ?_)
  refine SeqR.done ?_
  refine tn ?_
  refine CW.seq ?_
  refine CW.seq ?_
  refine CW.region ?_
  refine SeqR.d1 rfl rfl rfl (yl_fieldAddr Try.fd37_0 rfl rfl ?_)
  refine SeqR.d1 rfl rfl rfl (yl_load1 Try.ty22 rfl rfl ((hB20.cell 0).trans rfl) ?_)
  refine SeqR.d1 rfl rfl rfl (yl_len Try.un22 rfl rfl ?_)
  refine SeqR.d1 rfl rfl rfl (yl_move rfl rfl ?_)
  refine SeqR.done ?_
  refine tn ?_
  refine CW.block ?_
  have q26 := Box.ex hB14 hE21
  have q27 := RdS.ex good_Str h1 hE15
  have q28 := RdS.ex good_Str q27 hE21
  have q29 := RdS.ex good_Idx h2 hE15
  have q30 := RdS.ex good_Idx q29 hE21
  have q31 := RdS.ex good_Str h4 hE15
  have q32 := RdS.ex good_Str q31 hE21
  have q33 := Ex.trans (Ex.refl w) hE15
  have q34 := Ex.trans q33 hE21
  refine CW.loop (fun m23 L24 w25 => ∃ (k22 : Nat), m23 = p_r.Vals.length - k22 ∧ k22 ≤ p_r.Vals.length ∧ w17.heap.size ≤ w25.heap.size ∧ lkp L24 2 = some (.pointer (some ⟨b10, 0, none⟩)) ∧ lkp L24 3 = some (.pointer (some ⟨b16, 0, none⟩)) ∧ lkp L24 8 = some (.slice A4 p_r.Vals.length c4) ∧ lkp L24 9 = some (.int .i64 ((p_r.Vals.length : Int))) ∧ lkp L24 10 = some (.int .i64 ((k22 : Int))) ∧ Box w25 b10 35 [.string (bs (p_t.Name)), .slice A1 p_t.Cols.length c1, .slice A2 p_t.Idxs.length c2] ∧ RdS w25 (Iv 0 w.heap.size) (RF e_Str) 1 A1 p_t.Cols.length c1 p_t.Cols ∧ RdS w25 (Iv 0 w.heap.size) (RF e_Idx) 3 A2 p_t.Idxs.length c2 p_t.Idxs ∧ Box w25 b16 37 [.slice A4 p_r.Vals.length c4] ∧ RdS w25 (Iv 0 w.heap.size) (RF e_Str) 1 A4 p_r.Vals.length c4 p_r.Vals ∧ Ex w w25 ∧ loopM (B_s_l25Good_0 p_t p_r) (p_r.Vals.length - k22) k22 () = loopM (B_s_l25Good_0 p_t p_r) (p_r.Vals.length - 0) 0 ()) (p_r.Vals.length - 0) ?_ ?_
  · exact ⟨0, rfl, (by omega), Nat.le_refl _, rfl, rfl, rfl, rfl, rfl, q26, q28, q30, hB20, q32, q34, rfl⟩
  · rintro m35 L36 w37 ⟨k22, rfl, hk38, hsz40, hl41, hl42, hl43, hl44, hl45, hf46, hf47, hf48, hf49, hf50, hf51, hI39⟩
    refine CW.sub (Sub.cons hl41 (Sub.cons hl42 (Sub.cons hl43 (Sub.cons hl44 (Sub.cons hl45 (Sub.nil _)))))) ?_
    have hf46z := Box.lt hf46
    have hf49z := Box.lt hf49
    have hf51z := Ex.size hf51
    have hbg52 := RdS.big hf50
    rcases Nat.lt_or_ge k22 p_r.Vals.length with hlt53 | hlt53
    · skip
      refine CW.seq ?_
      refine CW.region ?_
      refine SeqR.d1 rfl rfl rfl (yl_lss rfl rfl rfl ?_)
      refine SeqR.done ?_
      refine tn ?_
      refine CW.seq ?_
      refine CW.cond_t rfl (lt_t hlt53) ?_
      refine CW.skip ?_
      refine tn ?_
      refine CW.seq ?_
      refine CW.block ?_
      refine CW.seq ?_
      refine CW.region ?_
      obtain ⟨eb54, eo54, ec54, eA54, eS54, ebl54, el54, eR54, eC54⟩ := RdS.atD hf50 d_Str (i := k22) (by first | omega | assumption)
      obtain rfl := eR54
      have eC54 : Cells w37 eb54 (eo54 + k22 * 1) [.string (bs ((p_r.Vals.getD k22 d_Str)))] := eC54
      refine SeqR.d1 rfl rfl rfl (yl_indexAddrN Try.un22 Try.ty9 rfl rfl rfl eA54 (by first | omega | assumption | (simp only [IntKind.wrap_i64] at *; omega)) ?_)
      refine SeqR.d1 rfl rfl rfl (yl_load1 Try.ty9 rfl rfl (eC54 0 _ rfl) ?_)
      refine SeqR.d1 rfl rfl rfl (yl_assign rfl rfl ?_)
      refine SeqR.done ?_
      refine tn ?_
      refine CW.seq ?_
      refine CW.region ?_
      refine SeqR.d1 rfl rfl rfl (yl_move rfl rfl ?_)
      refine SeqR.d1 rfl rfl rfl (yl_call Try.en147 rfl (opvs_cons rfl opvs_nil) (Cal.mono (c_s_l25Field (p_r.Vals.getD k22 d_Str) (okL.getD o5 ok_d_Str _)) ?_))
      rintro v56 w55 ⟨rfl, hE57⟩
      have hE57z := Ex.size hE57
      refine SeqR.d1 rfl rfl rfl (yl_not rfl rfl ?_)
      refine SeqR.done ?_
      refine tn ?_
      refine bcase (s_l25Field (p_r.Vals.getD k22 d_Str)) (fun hb58 => ?_) (fun hb58 => ?_)
      · skip
        refine CW.cond_f rfl (not_t hb58) ?_
        refine CW.skip ?_
        refine bn ?_
        refine tn ?_
        refine CW.region ?_
        refine SeqR.d1 rfl rfl rfl (yl_inc rfl rfl rfl (by omega) ?_)
        refine SeqR.d1 rfl rfl rfl (yl_move rfl rfl ?_)
        refine SeqR.done ?_
        refine tn ?_
        have hB59 : B_s_l25Good_0 p_t p_r k22 () = .cont () := by simp only [B_s_l25Good_0, hb58, cond_true, cond_false, loopE_done, loopE_ret]
        have q60 := Box.ex hf46 hE57
        have q61 := RdS.ex good_Str hf47 hE57
        have q62 := RdS.ex good_Idx hf48 hE57
        have q63 := Box.ex hf49 hE57
        have q64 := RdS.ex good_Str hf50 hE57
        have q65 := Ex.trans hf51 hE57
        exact ⟨p_r.Vals.length - (k22 + 1), by omega, k22 + 1, rfl, hlt53, (by omega), rfl, rfl, rfl, rfl, rfl, q60, q61, q62, q63, q64, q65, (loopM.cont hlt53 hB59).symm.trans hI39⟩
      · skip
        refine CW.cond_t rfl (not_f hb58) ?_
        refine CW.seq ?_
        refine CW.region ?_
        refine SeqR.d1 rfl rfl rfl (yl_assign rfl rfl ?_)
        refine SeqR.done ?_
        refine tn ?_
        refine CW.ret ?_
        refine br ?_
        refine tr ?_
        refine tr ?_
        have hB67 : B_s_l25Good_0 p_t p_r k22 () = .ret false := by simp only [B_s_l25Good_0, hb58, cond_true, cond_false, loopE_done, loopE_ret]
        have hL66 : loopM (B_s_l25Good_0 p_t p_r) (p_r.Vals.length - 0) 0 () = .ret false := hI39.symm.trans (loopM.ret hlt53 hB67)
        refine br ?_
        refine tr ?_
        refine rr rfl (.cons rfl .nil) ?_
        have hM68 : (s_l25Good p_t p_r) = (false) := by simp only [s_l25Good, hb58, hL66, cond_true, cond_false, loopE_done, loopE_ret]
        rw [hM68]
        have q69 := Ex.trans hf51 hE57
        exact ⟨rfl, q69⟩
    · skip
      refine CW.seq ?_
      refine CW.region ?_
      refine SeqR.d1 rfl rfl rfl (yl_lss rfl rfl rfl ?_)
      refine SeqR.done ?_
      refine tn ?_
      refine CW.seq ?_
      refine CW.cond_f rfl (lt_f hlt53) ?_
      refine CW.exit ?_
      refine tx ?_
      refine tx ?_
      have hL70 : loopM (B_s_l25Good_0 p_t p_r) (p_r.Vals.length - 0) 0 () = .done () := hI39.symm.trans (loopM.stop hlt53)
      refine bx ?_
      refine tn ?_
      refine CW.seq ?_
      refine CW.region ?_
      refine SeqR.d1 rfl rfl rfl (yl_fieldAddr Try.fd37_0 rfl rfl ?_)
      refine SeqR.d1 rfl rfl rfl (yl_load1 Try.ty22 rfl rfl ((hf49.cell 0).trans rfl) ?_)
      refine SeqR.d1 rfl rfl rfl (yl_len Try.un22 rfl rfl ?_)
      refine SeqR.d1 rfl rfl rfl (yl_fieldAddr Try.fd35_1 rfl rfl ?_)
      refine SeqR.d1 rfl rfl rfl (yl_load1 Try.ty22 rfl rfl ((hf46.cell 1).trans rfl) ?_)
      refine SeqR.d1 rfl rfl rfl (yl_len Try.un22 rfl rfl ?_)
      refine SeqR.d1 rfl rfl rfl (yl_eql rfl rfl rfl ?_)
      refine SeqR.d1 rfl rfl rfl (yl_assign rfl rfl ?_)
      refine SeqR.done ?_
      refine tn ?_
      refine CW.ret ?_
      refine rr rfl (.cons rfl .nil) ?_
      have hM71 : (s_l25Good p_t p_r) = (decide ((p_r.Vals.length : Int) = (p_t.Cols.length : Int))) := by simp only [s_l25Good, hL70, cond_true, cond_false, loopE_done, loopE_ret]
      rw [hM71]
      exact ⟨rfl, hf51⟩
set_option maxRecDepth 100000 in
set_option maxHeartbeats 2000000 in
theorem c_s_l26Good {A1 : Option Addr} {c1 : Nat} {A2 : Option Addr} {c2 : Nat} {A4 : Option Addr} {c4 : Nat} {A5 : Option Addr} {c5 : Nat} {w : World} (p_t : DTable) (p_a : DRowAct) (h1 : RdS w (Iv 0 w.heap.size) (RF e_Str) 1 A1 p_t.Cols.length c1 p_t.Cols) (h2 : RdS w (Iv 0 w.heap.size) (RF e_Idx) 3 A2 p_t.Idxs.length c2 p_t.Idxs) (h4 : RdS w (Iv 0 w.heap.size) (RF e_Str) 1 A4 p_a.Old.Vals.length c4 p_a.Old.Vals) (h5 : RdS w (Iv 0 w.heap.size) (RF e_Str) 1 A5 p_a.New.Vals.length c5 p_a.New.Vals) (o3 : ok_Table p_t) (o6 : ok_RowAct p_a) (pre0 : 0 < p_t.Cols.length) : Cal Try.prog 69 #[.agg #[.string (bs (p_t.Name)), .slice A1 p_t.Cols.length c1, .slice A2 p_t.Idxs.length c2], .agg #[.int .i64 (p_a.Kind), .slice A4 p_a.Old.Vals.length c4, .slice A5 p_a.New.Vals.length c5]] w fun v w' => v = .bool ((s_l26Good p_t p_a)) ∧ Ex w w' := by
  have hol7 : p_t.Name.length ≤ 1073741824 := o3.1
  have hol8 := o3.2.1.1
  have hol9 := o3.2.2.1
  have hol10 := o6.1.1
  have hol11 := o6.2.1
  refine Cal.of (vs := [.agg #[.string (bs (p_t.Name)), .slice A1 p_t.Cols.length c1, .slice A2 p_t.Idxs.length c2], .agg #[.int .i64 (p_a.Kind), .slice A4 p_a.Old.Vals.length c4, .slice A5 p_a.New.Vals.length c5]]) Try.func69 rfl Try.ntmps69 rfl ?_
  refine CW.seq ?_
  refine CW.region ?_
  refine SeqR.d1 rfl rfl rfl (yl_box (cs := [.string (bs (p_t.Name)), .slice A1 p_t.Cols.length c1, .slice A2 p_t.Idxs.length c2]) rfl rfl rfl ?_)
  intro b12 w13 hs14 hz15 hB16 hE17
  refine SeqR.d1 rfl rfl rfl (yl_box (cs := [.int .i64 (p_a.Kind), .slice A4 p_a.Old.Vals.length c4, .slice A5 p_a.New.Vals.length c5]) rfl rfl rfl ?_)
  intro b18 w19 hs20 hz21 hB22 hE23
  refine SeqR.d1 rfl rfl rfl (yl_assign rfl rfl ?_)
  refine SeqR.done ?_
  refine tn ?_
  refine CW.seq ?_
  refine CW.seq ?_
  refine CW.region ?_
  refine SeqR.d1 rfl rfl rfl (yl_fieldAddr Try.fd39_0 rfl rfl ?_)
  refine SeqR.d1 rfl rfl rfl (yl_load1 Try.ty3 rfl rfl ((hB22.cell 0).trans rfl) ?_)
  refine SeqR.done ?_
  refine tn ?_
  refine CW.block ?_
  refine CW.seq ?_
  refine CW.region ?_
  refine SeqR.d1 rfl rfl rfl (yl_eql rfl rfl rfl ?_)
  refine SeqR.d1 rfl rfl rfl (yl_assign rfl rfl ?_)
  refine SeqR.done ?_
  refine tn ?_
  refine bcase (decide (p_a.Kind = 1)) (fun hb24 => ?_) (fun hb24 => ?_)
  · have hb24p := dec_t hb24
    refine CW.cond_t rfl hb24 ?_
    refine CW.seq ?_
    refine CW.region ?_
    refine SeqR.d1 rfl rfl rfl (yl_fieldAddr Try.fd39_1 rfl rfl ?_)
    refine SeqR.d1 rfl rfl rfl (yl_fieldAddr Try.fd37_0 rfl rfl ?_)
    refine SeqR.d1 rfl rfl rfl (yl_load1 Try.ty22 rfl rfl ((hB22.cell 1).trans rfl) ?_)
    refine SeqR.d1 rfl rfl rfl (yl_len Try.un22 rfl rfl ?_)
    refine SeqR.d1 rfl rfl rfl (yl_eql rfl rfl rfl ?_)
    refine SeqR.d1 rfl rfl rfl (yl_move rfl rfl ?_)
    refine bcase (decide ((p_a.Old.Vals.length : Int) = 0)) (fun hb25 => ?_) (fun hb25 => ?_)
    · have hb25p := dec_t hb25
      have q26 := Box.ex hB16 hE23
      refine SeqR.y rfl rfl rfl rfl rfl hb25 (yl_loadN (cs := [.string (bs (p_t.Name)), .slice A1 p_t.Cols.length c1, .slice A2 p_t.Idxs.length c2]) Try.ty35 rfl rfl (q26.cells (n := 3) rfl) rfl ?_)
      refine SeqR.y rfl rfl rfl rfl rfl hb25 (yl_fieldAddr Try.fd39_2 rfl rfl ?_)
      refine SeqR.y rfl rfl rfl rfl rfl hb25 (yl_loadN (cs := [.slice A5 p_a.New.Vals.length c5]) Try.ty37 rfl rfl (hB22.cells (n := 1) rfl) rfl ?_)
      have q27 := RdS.ex good_Str h1 hE17
      have q28 := RdS.ex good_Str q27 hE23
      have q29 := RdS.ex good_Idx h2 hE17
      have q30 := RdS.ex good_Idx q29 hE23
      have q31 := RdS.ex good_Str h5 hE17
      have q32 := RdS.ex good_Str q31 hE23
      refine SeqR.y rfl rfl rfl rfl rfl hb25 (yl_call Try.en87 rfl (opvs_cons rfl (opvs_cons rfl opvs_nil)) (Cal.mono (c_s_l25Good p_t p_a.New (RdS.up q28 good_Str) (RdS.up q30 good_Idx) (RdS.up q32 good_Str) o3 o6.2) ?_))
      rintro v34 w33 ⟨rfl, hE35⟩
      have hE35z := Ex.size hE35
      refine SeqR.d1 rfl rfl rfl (yl_pick_t rfl rfl hb25 rfl ?_)
      refine SeqR.d1 rfl rfl rfl (yl_assign rfl rfl ?_)
      refine SeqR.done ?_
      refine tn ?_
      refine CW.ret ?_
      refine br ?_
      refine tr ?_
      refine rr rfl (.cons rfl .nil) ?_
      have hM36 : (s_l26Good p_t p_a) = ((s_l25Good p_t p_a.New)) := by simp only [s_l26Good, hb24, hb25, cond_true, cond_false, loopE_done, loopE_ret]
      rw [hM36]
      have q37 := Ex.trans (Ex.refl w) hE17
      have q38 := Ex.trans q37 hE23
      have q39 := Ex.trans q38 hE35
      exact ⟨rfl, q39⟩
    · have hb25p := dec_f hb25
      refine SeqR.z rfl rfl rfl rfl rfl hb25 ?_
      refine SeqR.z rfl rfl rfl rfl rfl hb25 ?_
      refine SeqR.z rfl rfl rfl rfl rfl hb25 ?_
      refine SeqR.z rfl rfl rfl rfl rfl hb25 ?_
      refine SeqR.d1 rfl rfl rfl (yl_pick_f rfl rfl hb25 rfl ?_)
      refine SeqR.d1 rfl rfl rfl (yl_assign rfl rfl ?_)
      refine SeqR.done ?_
      refine tn ?_
      refine CW.ret ?_
      refine br ?_
      refine tr ?_
      refine rr rfl (.cons rfl .nil) ?_
      have hM40 : (s_l26Good p_t p_a) = (false) := by simp only [s_l26Good, hb24, hb25, cond_true, cond_false, loopE_done, loopE_ret]
      rw [hM40]
      have q41 := Ex.trans (Ex.refl w) hE17
      have q42 := Ex.trans q41 hE23
      exact ⟨rfl, q42⟩
  · have hb24p := dec_f hb24
    refine CW.cond_f rfl hb24 ?_
    refine CW.seq ?_
    refine CW.region ?_
    refine SeqR.d1 rfl rfl rfl (yl_eql rfl rfl rfl ?_)
    refine SeqR.d1 rfl rfl rfl (yl_assign rfl rfl ?_)
    refine SeqR.done ?_
    refine tn ?_
    refine bcase (decide (p_a.Kind = 2)) (fun hb43 => ?_) (fun hb43 => ?_)
    · have hb43p := dec_t hb43
      refine CW.cond_t rfl hb43 ?_
      refine CW.seq ?_
      refine CW.region ?_
      refine SeqR.d1 rfl rfl rfl (yl_fieldAddr Try.fd39_2 rfl rfl ?_)
      refine SeqR.d1 rfl rfl rfl (yl_fieldAddr Try.fd37_0 rfl rfl ?_)
      refine SeqR.d1 rfl rfl rfl (yl_load1 Try.ty22 rfl rfl ((hB22.cell 2).trans rfl) ?_)
      refine SeqR.d1 rfl rfl rfl (yl_len Try.un22 rfl rfl ?_)
      refine SeqR.d1 rfl rfl rfl (yl_eql rfl rfl rfl ?_)
      refine SeqR.d1 rfl rfl rfl (yl_move rfl rfl ?_)
      refine bcase (decide ((p_a.New.Vals.length : Int) = 0)) (fun hb44 => ?_) (fun hb44 => ?_)
      · have hb44p := dec_t hb44
        have q45 := Box.ex hB16 hE23
        refine SeqR.y rfl rfl rfl rfl rfl hb44 (yl_loadN (cs := [.string (bs (p_t.Name)), .slice A1 p_t.Cols.length c1, .slice A2 p_t.Idxs.length c2]) Try.ty35 rfl rfl (q45.cells (n := 3) rfl) rfl ?_)
        refine SeqR.y rfl rfl rfl rfl rfl hb44 (yl_fieldAddr Try.fd39_1 rfl rfl ?_)
        refine SeqR.y rfl rfl rfl rfl rfl hb44 (yl_loadN (cs := [.slice A4 p_a.Old.Vals.length c4]) Try.ty37 rfl rfl (hB22.cells (n := 1) rfl) rfl ?_)
        have q46 := RdS.ex good_Str h1 hE17
        have q47 := RdS.ex good_Str q46 hE23
        have q48 := RdS.ex good_Idx h2 hE17
        have q49 := RdS.ex good_Idx q48 hE23
        have q50 := RdS.ex good_Str h4 hE17
        have q51 := RdS.ex good_Str q50 hE23
        refine SeqR.y rfl rfl rfl rfl rfl hb44 (yl_call Try.en87 rfl (opvs_cons rfl (opvs_cons rfl opvs_nil)) (Cal.mono (c_s_l25Good p_t p_a.Old (RdS.up q47 good_Str) (RdS.up q49 good_Idx) (RdS.up q51 good_Str) o3 o6.1) ?_))
        rintro v53 w52 ⟨rfl, hE54⟩
        have hE54z := Ex.size hE54
        refine SeqR.d1 rfl rfl rfl (yl_pick_t rfl rfl hb44 rfl ?_)
        refine SeqR.d1 rfl rfl rfl (yl_assign rfl rfl ?_)
        refine SeqR.done ?_
        refine tn ?_
        refine CW.ret ?_
        refine br ?_
        refine tr ?_
        refine rr rfl (.cons rfl .nil) ?_
        have hM55 : (s_l26Good p_t p_a) = ((s_l25Good p_t p_a.Old)) := by simp only [s_l26Good, hb24, hb43, hb44, cond_true, cond_false, loopE_done, loopE_ret]
        rw [hM55]
        have q56 := Ex.trans (Ex.refl w) hE17
        have q57 := Ex.trans q56 hE23
        have q58 := Ex.trans q57 hE54
        exact ⟨rfl, q58⟩
      · have hb44p := dec_f hb44
        refine SeqR.z rfl rfl rfl rfl rfl hb44 ?_
        refine SeqR.z rfl rfl rfl rfl rfl hb44 ?_
        refine SeqR.z rfl rfl rfl rfl rfl hb44 ?_
        refine SeqR.z rfl rfl rfl rfl rfl hb44 ?_
        refine SeqR.d1 rfl rfl rfl (yl_pick_f rfl rfl hb44 rfl ?_)
        refine SeqR.d1 rfl rfl rfl (yl_assign rfl rfl ?_)
        refine SeqR.done ?_
        refine tn ?_
        refine CW.ret ?_
        refine br ?_
        refine tr ?_
        refine rr rfl (.cons rfl .nil) ?_
        have hM59 : (s_l26Good p_t p_a) = (false) := by simp only [s_l26Good, hb24, hb43, hb44, cond_true, cond_false, loopE_done, loopE_ret]
        rw [hM59]
        have q60 := Ex.trans (Ex.refl w) hE17
        have q61 := Ex.trans q60 hE23
        exact ⟨rfl, q61⟩
    · have hb43p := dec_f hb43
      refine CW.cond_f rfl hb43 ?_
      refine CW.seq ?_
      refine CW.region ?_
      refine SeqR.d1 rfl rfl rfl (yl_eql rfl rfl rfl ?_)
      refine SeqR.d1 rfl rfl rfl (yl_assign rfl rfl ?_)
      refine SeqR.done ?_
      refine tn ?_
      refine bcase (decide (p_a.Kind = 3)) (fun hb62 => ?_) (fun hb62 => ?_)
      · have hb62p := dec_t hb62
        refine CW.cond_t rfl hb62 ?_
        refine CW.seq ?_
        have q63 := Box.ex hB16 hE23
        have q64 := RdS.ex good_Str h1 hE17
        have q65 := RdS.ex good_Str q64 hE23
        have q66 := RdS.ex good_Idx h2 hE17
        have q67 := RdS.ex good_Idx q66 hE23
        have q68 := RdS.ex good_Str h4 hE17
        have q69 := RdS.ex good_Str q68 hE23
        refine bcase (s_l25Good p_t p_a.Old) (fun hb71 => ?_) (fun hb71 => ?_)
        · have hb71p := f_s_l25Good hb71
          have q72 := Box.ex hB16 hE23
          have q73 := RdS.ex good_Str h1 hE17
          have q74 := RdS.ex good_Str q73 hE23
          have q75 := RdS.ex good_Idx h2 hE17
          have q76 := RdS.ex good_Idx q75 hE23
          have q77 := RdS.ex good_Str h4 hE17
          have q78 := RdS.ex good_Str q77 hE23
          have q80 := RdS.ex good_Str h5 hE17
          have q81 := RdS.ex good_Str q80 hE23
          refine bcase (s_l25Good p_t p_a.New) (fun hb83 => ?_) (fun hb83 => ?_)
          · have hb83p := f_s_l25Good hb83
            have q84 := Box.ex hB16 hE23
            have q85 := RdS.ex good_Str h1 hE17
            have q86 := RdS.ex good_Str q85 hE23
            have q87 := RdS.ex good_Idx h2 hE17
            have q88 := RdS.ex good_Idx q87 hE23
            have q89 := RdS.ex good_Str h4 hE17
            have q90 := RdS.ex good_Str q89 hE23
            have q92 := RdS.ex good_Str h5 hE17
            have q93 := RdS.ex good_Str q92 hE23
            obtain ⟨eb95, eo95, ec95, eA95, eS95, ebl95, el95, eR95, eC95⟩ := RdS.atD q90 d_Str (i := 0) (by first | omega | assumption)
            obtain rfl := eR95
            have eC95 : Cells w19 eb95 (eo95 + 0 * 1) [.string (bs ((p_a.Old.Vals.getD 0 d_Str)))] := eC95
            obtain ⟨eb96, eo96, ec96, eA96, eS96, ebl96, el96, eR96, eC96⟩ := RdS.atD q93 d_Str (i := 0) (by first | omega | assumption)
            obtain rfl := eR96
            have eC96 : Cells w19 eb96 (eo96 + 0 * 1) [.string (bs ((p_a.New.Vals.getD 0 d_Str)))] := eC96
            refine CW.drawsI 24 (vgetI [DetI (.agg #[.string (bs (p_t.Name)), .slice A1 p_t.Cols.length c1, .slice A2 p_t.Idxs.length c2]), DetI (.pointer (some ⟨b18, 0 + 1, none⟩)), DetI (.agg #[.slice A4 p_a.Old.Vals.length c4]), DetI (.bool ((s_l25Good p_t p_a.Old))), DetI (.bool ((s_l25Good p_t p_a.Old))), DetI (.agg #[.string (bs (p_t.Name)), .slice A1 p_t.Cols.length c1, .slice A2 p_t.Idxs.length c2]), DetI (.pointer (some ⟨b18, 0 + 2, none⟩)), DetI (.agg #[.slice A5 p_a.New.Vals.length c5]), DetI (.bool ((s_l25Good p_t p_a.New))), DetI (.bool ((s_l25Good p_t p_a.New))), DetI (.bool ((s_l25Good p_t p_a.New))), DetI (.pointer (some ⟨b18, 0 + 1, none⟩)), DetI (.pointer (some ⟨b18, 0 + 1 + 0, none⟩)), DetI (.slice A4 p_a.Old.Vals.length c4), DetI (.pointer (some ⟨eb95, eo95 + 0 * 1, none⟩)), DetI (.string (bs ((p_a.Old.Vals.getD 0 d_Str)))), DetI (.pointer (some ⟨b18, 0 + 2, none⟩)), DetI (.pointer (some ⟨b18, 0 + 2 + 0, none⟩)), DetI (.slice A5 p_a.New.Vals.length c5), DetI (.pointer (some ⟨eb96, eo96 + 0 * 1, none⟩)), DetI (.string (bs ((p_a.New.Vals.getD 0 d_Str)))), DetI (.bool ((p_a.Old.Vals.getD 0 d_Str) == (p_a.New.Vals.getD 0 d_Str))), DetI (.bool ((p_a.Old.Vals.getD 0 d_Str) == (p_a.New.Vals.getD 0 d_Str))), DetI (.bool ((p_a.Old.Vals.getD 0 d_Str) == (p_a.New.Vals.getD 0 d_Str)))]) Try.follows rfl rfl rfl rfl rfl rfl (vgetI_stable ⟨StableI.det _, StableI.det _, StableI.det _, StableI.det _, StableI.det _, StableI.det _, StableI.det _, StableI.det _, StableI.det _, StableI.det _, StableI.det _, StableI.det _, StableI.det _, StableI.det _, StableI.det _, StableI.det _, StableI.det _, StableI.det _, StableI.det _, StableI.det _, StableI.det _, StableI.det _, StableI.det _, StableI.det _, trivial⟩) ⟨?_, ?_, ?_, ?_, ?_, ?_, ?_, ?_, ?_, ?_, ?_, ?_, ?_, ?_, ?_, ?_, ?_, ?_, ?_, ?_, ?_, ?_, ?_, ?_, trivial⟩ ?_
            · intro L97 w98 hi99
              have hE100 := hi99.ex
              have hE100z := Ex.size hE100
              have hx101 := hi99.old 2 _ rfl rfl
              have q102 := Box.ex q84 hE100
              exact OpR.op' rfl (Yl.sameI (yl_loadN (cs := [.string (bs (p_t.Name)), .slice A1 p_t.Cols.length c1, .slice A2 p_t.Idxs.length c2]) Try.ty35 rfl hx101 (q102.cells (n := 3) rfl) rfl ⟨fun _ _ => rfl, rfl⟩))
            · intro L103 w104 hi105
              have hE106 := hi105.ex
              have hE106z := Ex.size hE106
              have hx107 := hi105.old 3 _ rfl rfl
              exact OpR.op' rfl (Yl.sameI (yl_fieldAddr Try.fd39_1 rfl hx107 ⟨fun _ _ => rfl, rfl⟩))
            · intro L108 w109 hi110
              have hE111 := hi110.ex
              have hE111z := Ex.size hE111
              obtain ⟨_, _, _, hx112, -, -, -, rfl⟩ := hi110.dep 1 36 rfl rfl
              have q113 := Box.ex hB22 hE111
              exact OpR.op' rfl (Yl.sameI (yl_loadN (cs := [.slice A4 p_a.Old.Vals.length c4]) Try.ty37 rfl hx112 (q113.cells (n := 1) rfl) rfl ⟨fun _ _ => rfl, rfl⟩))
            · intro L114 w115 hi116
              have hE117 := hi116.ex
              have hE117z := Ex.size hE117
              obtain ⟨_, _, _, hx118, -, -, -, rfl⟩ := hi116.dep 0 35 rfl rfl
              obtain ⟨_, _, _, hx119, -, -, -, rfl⟩ := hi116.dep 2 37 rfl rfl
              have q120 := RdS.ex good_Str q86 hE117
              have q121 := RdS.ex good_Idx q88 hE117
              have q122 := RdS.ex good_Str q90 hE117
              refine OpR.op' rfl (yl_call Try.en87 rfl (opvs_cons hx118 (opvs_cons hx119 opvs_nil)) (Cal.mono (c_s_l25Good p_t p_a.Old (RdS.up q120 good_Str) (RdS.up q121 good_Idx) (RdS.up q122 good_Str) o3 o6.1) ?_))
              rintro v124 w123 ⟨rfl, hE125⟩
              exact ⟨rfl, hE125⟩
            · intro L126 w127 hi128
              have hE129 := hi128.ex
              have hE129z := Ex.size hE129
              obtain ⟨_, _, _, hx130, -, -, -, rfl⟩ := hi128.dep 3 38 rfl rfl
              exact OpR.op' rfl (Yl.sameI (yl_move rfl hx130 ⟨fun _ _ => rfl, rfl⟩))
            · intro L131 w132 hi133
              have hE134 := hi133.ex
              have hE134z := Ex.size hE134
              obtain ⟨_, _, _, hx135, -, -, -, rfl⟩ := hi133.dep 4 39 rfl rfl
              have hx136 := hi133.old 2 _ rfl rfl
              have q137 := Box.ex q84 hE134
              exact OpR.want rfl rfl hx135 hb71 (Yl.sameI (yl_loadN (cs := [.string (bs (p_t.Name)), .slice A1 p_t.Cols.length c1, .slice A2 p_t.Idxs.length c2]) Try.ty35 rfl hx136 (q137.cells (n := 3) rfl) rfl ⟨fun _ _ => rfl, rfl⟩))
            · intro L138 w139 hi140
              have hE141 := hi140.ex
              have hE141z := Ex.size hE141
              obtain ⟨_, _, _, hx142, -, -, -, rfl⟩ := hi140.dep 4 39 rfl rfl
              have hx143 := hi140.old 3 _ rfl rfl
              exact OpR.want rfl rfl hx142 hb71 (Yl.sameI (yl_fieldAddr Try.fd39_2 rfl hx143 ⟨fun _ _ => rfl, rfl⟩))
            · intro L144 w145 hi146
              have hE147 := hi146.ex
              have hE147z := Ex.size hE147
              obtain ⟨_, _, _, hx148, -, -, -, rfl⟩ := hi146.dep 4 39 rfl rfl
              obtain ⟨_, _, _, hx149, -, -, -, rfl⟩ := hi146.dep 6 41 rfl rfl
              have q150 := Box.ex hB22 hE147
              exact OpR.want rfl rfl hx148 hb71 (Yl.sameI (yl_loadN (cs := [.slice A5 p_a.New.Vals.length c5]) Try.ty37 rfl hx149 (q150.cells (n := 1) rfl) rfl ⟨fun _ _ => rfl, rfl⟩))
            · intro L151 w152 hi153
              have hE154 := hi153.ex
              have hE154z := Ex.size hE154
              obtain ⟨_, _, _, hx155, -, -, -, rfl⟩ := hi153.dep 4 39 rfl rfl
              obtain ⟨_, _, _, hx156, -, -, -, rfl⟩ := hi153.dep 5 40 rfl rfl
              obtain ⟨_, _, _, hx157, -, -, -, rfl⟩ := hi153.dep 7 42 rfl rfl
              have q158 := RdS.ex good_Str q86 hE154
              have q159 := RdS.ex good_Idx q88 hE154
              have q160 := RdS.ex good_Str q93 hE154
              refine OpR.want rfl rfl hx155 hb71 (yl_call Try.en87 rfl (opvs_cons hx156 (opvs_cons hx157 opvs_nil)) (Cal.mono (c_s_l25Good p_t p_a.New (RdS.up q158 good_Str) (RdS.up q159 good_Idx) (RdS.up q160 good_Str) o3 o6.2) ?_))
              rintro v162 w161 ⟨rfl, hE163⟩
              exact ⟨rfl, hE163⟩
            · intro L164 w165 hi166
              have hE167 := hi166.ex
              have hE167z := Ex.size hE167
              obtain ⟨_, _, _, hx168, -, -, -, rfl⟩ := hi166.dep 8 43 rfl rfl
              obtain ⟨_, _, _, hx169, -, -, -, rfl⟩ := hi166.dep 4 39 rfl rfl
              exact OpR.op' rfl (Yl.sameI (yl_pick_t rfl hx169 hb71 hx168 ⟨fun _ _ => rfl, rfl⟩))
            · intro L170 w171 hi172
              have hE173 := hi172.ex
              have hE173z := Ex.size hE173
              obtain ⟨_, _, _, hx174, -, -, -, rfl⟩ := hi172.dep 9 44 rfl rfl
              exact OpR.op' rfl (Yl.sameI (yl_move rfl hx174 ⟨fun _ _ => rfl, rfl⟩))
            · intro L175 w176 hi177
              have hE178 := hi177.ex
              have hE178z := Ex.size hE178
              obtain ⟨_, _, _, hx179, -, -, -, rfl⟩ := hi177.dep 10 45 rfl rfl
              have hx180 := hi177.old 3 _ rfl rfl
              exact OpR.want rfl rfl hx179 hb83 (Yl.sameI (yl_fieldAddr Try.fd39_1 rfl hx180 ⟨fun _ _ => rfl, rfl⟩))
            · intro L181 w182 hi183
              have hE184 := hi183.ex
              have hE184z := Ex.size hE184
              obtain ⟨_, _, _, hx185, -, -, -, rfl⟩ := hi183.dep 10 45 rfl rfl
              obtain ⟨_, _, _, hx186, -, -, -, rfl⟩ := hi183.dep 11 46 rfl rfl
              exact OpR.want rfl rfl hx185 hb83 (Yl.sameI (yl_fieldAddr Try.fd37_0 rfl hx186 ⟨fun _ _ => rfl, rfl⟩))
            · intro L187 w188 hi189
              have hE190 := hi189.ex
              have hE190z := Ex.size hE190
              obtain ⟨_, _, _, hx191, -, -, -, rfl⟩ := hi189.dep 10 45 rfl rfl
              obtain ⟨_, _, _, hx192, -, -, -, rfl⟩ := hi189.dep 12 47 rfl rfl
              have q193 := Box.ex hB22 hE190
              exact OpR.want rfl rfl hx191 hb83 (Yl.sameI (yl_load1 Try.ty22 rfl hx192 ((q193.cell 1).trans rfl) ⟨fun _ _ => rfl, rfl⟩))
            · intro L194 w195 hi196
              have hE197 := hi196.ex
              have hE197z := Ex.size hE197
              obtain ⟨_, _, _, hx198, -, -, -, rfl⟩ := hi196.dep 10 45 rfl rfl
              obtain ⟨_, _, _, hx199, -, -, -, rfl⟩ := hi196.dep 13 48 rfl rfl
              exact OpR.want rfl rfl hx198 hb83 (Yl.sameI (yl_indexAddrN Try.un22 Try.ty9 rfl hx199 rfl eA95 (by first | omega | assumption | (simp only [IntKind.wrap_i64] at *; omega)) ⟨fun _ _ => rfl, rfl⟩))
            · intro L200 w201 hi202
              have hE203 := hi202.ex
              have hE203z := Ex.size hE203
              obtain ⟨_, _, _, hx204, -, -, -, rfl⟩ := hi202.dep 10 45 rfl rfl
              obtain ⟨_, _, _, hx205, -, -, -, rfl⟩ := hi202.dep 14 49 rfl rfl
              have q206 := Cells.ex eC95 hE203
              exact OpR.want rfl rfl hx204 hb83 (Yl.sameI (yl_load1 Try.ty9 rfl hx205 (q206 0 _ rfl) ⟨fun _ _ => rfl, rfl⟩))
            · intro L207 w208 hi209
              have hE210 := hi209.ex
              have hE210z := Ex.size hE210
              obtain ⟨_, _, _, hx211, -, -, -, rfl⟩ := hi209.dep 10 45 rfl rfl
              have hx212 := hi209.old 3 _ rfl rfl
              exact OpR.want rfl rfl hx211 hb83 (Yl.sameI (yl_fieldAddr Try.fd39_2 rfl hx212 ⟨fun _ _ => rfl, rfl⟩))
            · intro L213 w214 hi215
              have hE216 := hi215.ex
              have hE216z := Ex.size hE216
              obtain ⟨_, _, _, hx217, -, -, -, rfl⟩ := hi215.dep 10 45 rfl rfl
              obtain ⟨_, _, _, hx218, -, -, -, rfl⟩ := hi215.dep 16 51 rfl rfl
              exact OpR.want rfl rfl hx217 hb83 (Yl.sameI (yl_fieldAddr Try.fd37_0 rfl hx218 ⟨fun _ _ => rfl, rfl⟩))
            · intro L219 w220 hi221
              have hE222 := hi221.ex
              have hE222z := Ex.size hE222
              obtain ⟨_, _, _, hx223, -, -, -, rfl⟩ := hi221.dep 10 45 rfl rfl
              obtain ⟨_, _, _, hx224, -, -, -, rfl⟩ := hi221.dep 17 52 rfl rfl
              have q225 := Box.ex hB22 hE222
              exact OpR.want rfl rfl hx223 hb83 (Yl.sameI (yl_load1 Try.ty22 rfl hx224 ((q225.cell 2).trans rfl) ⟨fun _ _ => rfl, rfl⟩))
            · intro L226 w227 hi228
              have hE229 := hi228.ex
              have hE229z := Ex.size hE229
              obtain ⟨_, _, _, hx230, -, -, -, rfl⟩ := hi228.dep 10 45 rfl rfl
              obtain ⟨_, _, _, hx231, -, -, -, rfl⟩ := hi228.dep 18 53 rfl rfl
              exact OpR.want rfl rfl hx230 hb83 (Yl.sameI (yl_indexAddrN Try.un22 Try.ty9 rfl hx231 rfl eA96 (by first | omega | assumption | (simp only [IntKind.wrap_i64] at *; omega)) ⟨fun _ _ => rfl, rfl⟩))
            · intro L232 w233 hi234
              have hE235 := hi234.ex
              have hE235z := Ex.size hE235
              obtain ⟨_, _, _, hx236, -, -, -, rfl⟩ := hi234.dep 10 45 rfl rfl
              obtain ⟨_, _, _, hx237, -, -, -, rfl⟩ := hi234.dep 19 54 rfl rfl
              have q238 := Cells.ex eC96 hE235
              exact OpR.want rfl rfl hx236 hb83 (Yl.sameI (yl_load1 Try.ty9 rfl hx237 (q238 0 _ rfl) ⟨fun _ _ => rfl, rfl⟩))
            · intro L239 w240 hi241
              have hE242 := hi241.ex
              have hE242z := Ex.size hE242
              obtain ⟨_, _, _, hx243, -, -, -, rfl⟩ := hi241.dep 10 45 rfl rfl
              obtain ⟨_, _, _, hx244, -, -, -, rfl⟩ := hi241.dep 15 50 rfl rfl
              obtain ⟨_, _, _, hx245, -, -, -, rfl⟩ := hi241.dep 20 55 rfl rfl
              exact OpR.want rfl rfl hx243 hb83 (Yl.sameI (yl_seql (a := (p_a.Old.Vals.getD 0 d_Str)) (b := (p_a.New.Vals.getD 0 d_Str)) rfl hx244 hx245 ⟨fun _ _ => rfl, rfl⟩))
            · intro L246 w247 hi248
              have hE249 := hi248.ex
              have hE249z := Ex.size hE249
              obtain ⟨_, _, _, hx250, -, -, -, rfl⟩ := hi248.dep 21 56 rfl rfl
              obtain ⟨_, _, _, hx251, -, -, -, rfl⟩ := hi248.dep 10 45 rfl rfl
              exact OpR.op' rfl (Yl.sameI (yl_pick_t rfl hx251 hb83 hx250 ⟨fun _ _ => rfl, rfl⟩))
            · intro L252 w253 hi254
              have hE255 := hi254.ex
              have hE255z := Ex.size hE255
              obtain ⟨_, _, _, hx256, -, -, -, rfl⟩ := hi254.dep 22 57 rfl rfl
              exact OpR.op' rfl (Yl.sameI (yl_assign rfl hx256 ⟨fun _ _ => rfl, rfl⟩))
            · intro fl260 fh261 L257 w258 hp259
              have hE262 := hp259.ex
              have hE262z := Ex.size hE262
              obtain ⟨_, hx263, rfl⟩ := hp259.new 23 4 rfl rfl
              refine SeqR.done ?_
              refine tn ?_
              refine CW.sub (Sub.cons (d := 4) hx263 (Sub.nil _)) ?_
              refine CW.ret ?_
              refine br ?_
              refine tr ?_
              refine rr rfl (.cons rfl .nil) ?_
              have hM264 : (s_l26Good p_t p_a) = ((p_a.Old.Vals.getD 0 d_Str) == (p_a.New.Vals.getD 0 d_Str)) := by simp only [s_l26Good, hb24, hb43, hb62, hb71, hb83, cond_true, cond_false, loopE_done, loopE_ret]
              rw [hM264]
              have q265 := Ex.trans (Ex.refl w) hE17
              have q266 := Ex.trans q265 hE23
              have q267 := Ex.trans q266 hE262
              exact ⟨rfl, q267⟩
          · skip
            have q268 := Box.ex hB16 hE23
            have q269 := RdS.ex good_Str h1 hE17
            have q270 := RdS.ex good_Str q269 hE23
            have q271 := RdS.ex good_Idx h2 hE17
            have q272 := RdS.ex good_Idx q271 hE23
            have q273 := RdS.ex good_Str h4 hE17
            have q274 := RdS.ex good_Str q273 hE23
            have q276 := RdS.ex good_Str h5 hE17
            have q277 := RdS.ex good_Str q276 hE23
            refine CW.drawsI 24 (vgetI [DetI (.agg #[.string (bs (p_t.Name)), .slice A1 p_t.Cols.length c1, .slice A2 p_t.Idxs.length c2]), DetI (.pointer (some ⟨b18, 0 + 1, none⟩)), DetI (.agg #[.slice A4 p_a.Old.Vals.length c4]), DetI (.bool ((s_l25Good p_t p_a.Old))), DetI (.bool ((s_l25Good p_t p_a.Old))), DetI (.agg #[.string (bs (p_t.Name)), .slice A1 p_t.Cols.length c1, .slice A2 p_t.Idxs.length c2]), DetI (.pointer (some ⟨b18, 0 + 2, none⟩)), DetI (.agg #[.slice A5 p_a.New.Vals.length c5]), DetI (.bool ((s_l25Good p_t p_a.New))), DetI (.bool ((s_l25Good p_t p_a.New))), DetI (.bool ((s_l25Good p_t p_a.New))), DetI (undef), DetI (undef), DetI (undef), DetI (undef), DetI (undef), DetI (undef), DetI (undef), DetI (undef), DetI (undef), DetI (undef), DetI (undef), DetI (.bool (false)), DetI (.bool (false))]) Try.follows rfl rfl rfl rfl rfl rfl (vgetI_stable ⟨StableI.det _, StableI.det _, StableI.det _, StableI.det _, StableI.det _, StableI.det _, StableI.det _, StableI.det _, StableI.det _, StableI.det _, StableI.det _, StableI.det _, StableI.det _, StableI.det _, StableI.det _, StableI.det _, StableI.det _, StableI.det _, StableI.det _, StableI.det _, StableI.det _, StableI.det _, StableI.det _, StableI.det _, trivial⟩) ⟨?_, ?_, ?_, ?_, ?_, ?_, ?_, ?_, ?_, ?_, ?_, ?_, ?_, ?_, ?_, ?_, ?_, ?_, ?_, ?_, ?_, ?_, ?_, ?_, trivial⟩ ?_
            · intro L279 w280 hi281
              have hE282 := hi281.ex
              have hE282z := Ex.size hE282
              have hx283 := hi281.old 2 _ rfl rfl
              have q284 := Box.ex q268 hE282
              exact OpR.op' rfl (Yl.sameI (yl_loadN (cs := [.string (bs (p_t.Name)), .slice A1 p_t.Cols.length c1, .slice A2 p_t.Idxs.length c2]) Try.ty35 rfl hx283 (q284.cells (n := 3) rfl) rfl ⟨fun _ _ => rfl, rfl⟩))
            · intro L285 w286 hi287
              have hE288 := hi287.ex
              have hE288z := Ex.size hE288
              have hx289 := hi287.old 3 _ rfl rfl
              exact OpR.op' rfl (Yl.sameI (yl_fieldAddr Try.fd39_1 rfl hx289 ⟨fun _ _ => rfl, rfl⟩))
            · intro L290 w291 hi292
              have hE293 := hi292.ex
              have hE293z := Ex.size hE293
              obtain ⟨_, _, _, hx294, -, -, -, rfl⟩ := hi292.dep 1 36 rfl rfl
              have q295 := Box.ex hB22 hE293
              exact OpR.op' rfl (Yl.sameI (yl_loadN (cs := [.slice A4 p_a.Old.Vals.length c4]) Try.ty37 rfl hx294 (q295.cells (n := 1) rfl) rfl ⟨fun _ _ => rfl, rfl⟩))
            · intro L296 w297 hi298
              have hE299 := hi298.ex
              have hE299z := Ex.size hE299
              obtain ⟨_, _, _, hx300, -, -, -, rfl⟩ := hi298.dep 0 35 rfl rfl
              obtain ⟨_, _, _, hx301, -, -, -, rfl⟩ := hi298.dep 2 37 rfl rfl
              have q302 := RdS.ex good_Str q270 hE299
              have q303 := RdS.ex good_Idx q272 hE299
              have q304 := RdS.ex good_Str q274 hE299
              refine OpR.op' rfl (yl_call Try.en87 rfl (opvs_cons hx300 (opvs_cons hx301 opvs_nil)) (Cal.mono (c_s_l25Good p_t p_a.Old (RdS.up q302 good_Str) (RdS.up q303 good_Idx) (RdS.up q304 good_Str) o3 o6.1) ?_))
              rintro v306 w305 ⟨rfl, hE307⟩
              exact ⟨rfl, hE307⟩
            · intro L308 w309 hi310
              have hE311 := hi310.ex
              have hE311z := Ex.size hE311
              obtain ⟨_, _, _, hx312, -, -, -, rfl⟩ := hi310.dep 3 38 rfl rfl
              exact OpR.op' rfl (Yl.sameI (yl_move rfl hx312 ⟨fun _ _ => rfl, rfl⟩))
            · intro L313 w314 hi315
              have hE316 := hi315.ex
              have hE316z := Ex.size hE316
              obtain ⟨_, _, _, hx317, -, -, -, rfl⟩ := hi315.dep 4 39 rfl rfl
              have hx318 := hi315.old 2 _ rfl rfl
              have q319 := Box.ex q268 hE316
              exact OpR.want rfl rfl hx317 hb71 (Yl.sameI (yl_loadN (cs := [.string (bs (p_t.Name)), .slice A1 p_t.Cols.length c1, .slice A2 p_t.Idxs.length c2]) Try.ty35 rfl hx318 (q319.cells (n := 3) rfl) rfl ⟨fun _ _ => rfl, rfl⟩))
            · intro L320 w321 hi322
              have hE323 := hi322.ex
              have hE323z := Ex.size hE323
              obtain ⟨_, _, _, hx324, -, -, -, rfl⟩ := hi322.dep 4 39 rfl rfl
              have hx325 := hi322.old 3 _ rfl rfl
              exact OpR.want rfl rfl hx324 hb71 (Yl.sameI (yl_fieldAddr Try.fd39_2 rfl hx325 ⟨fun _ _ => rfl, rfl⟩))
            · intro L326 w327 hi328
              have hE329 := hi328.ex
              have hE329z := Ex.size hE329
              obtain ⟨_, _, _, hx330, -, -, -, rfl⟩ := hi328.dep 4 39 rfl rfl
              obtain ⟨_, _, _, hx331, -, -, -, rfl⟩ := hi328.dep 6 41 rfl rfl
              have q332 := Box.ex hB22 hE329
              exact OpR.want rfl rfl hx330 hb71 (Yl.sameI (yl_loadN (cs := [.slice A5 p_a.New.Vals.length c5]) Try.ty37 rfl hx331 (q332.cells (n := 1) rfl) rfl ⟨fun _ _ => rfl, rfl⟩))
            · intro L333 w334 hi335
              have hE336 := hi335.ex
              have hE336z := Ex.size hE336
              obtain ⟨_, _, _, hx337, -, -, -, rfl⟩ := hi335.dep 4 39 rfl rfl
              obtain ⟨_, _, _, hx338, -, -, -, rfl⟩ := hi335.dep 5 40 rfl rfl
              obtain ⟨_, _, _, hx339, -, -, -, rfl⟩ := hi335.dep 7 42 rfl rfl
              have q340 := RdS.ex good_Str q270 hE336
              have q341 := RdS.ex good_Idx q272 hE336
              have q342 := RdS.ex good_Str q277 hE336
              refine OpR.want rfl rfl hx337 hb71 (yl_call Try.en87 rfl (opvs_cons hx338 (opvs_cons hx339 opvs_nil)) (Cal.mono (c_s_l25Good p_t p_a.New (RdS.up q340 good_Str) (RdS.up q341 good_Idx) (RdS.up q342 good_Str) o3 o6.2) ?_))
              rintro v344 w343 ⟨rfl, hE345⟩
              exact ⟨rfl, hE345⟩
            · intro L346 w347 hi348
              have hE349 := hi348.ex
              have hE349z := Ex.size hE349
              obtain ⟨_, _, _, hx350, -, -, -, rfl⟩ := hi348.dep 8 43 rfl rfl
              obtain ⟨_, _, _, hx351, -, -, -, rfl⟩ := hi348.dep 4 39 rfl rfl
              exact OpR.op' rfl (Yl.sameI (yl_pick_t rfl hx351 hb71 hx350 ⟨fun _ _ => rfl, rfl⟩))
            · intro L352 w353 hi354
              have hE355 := hi354.ex
              have hE355z := Ex.size hE355
              obtain ⟨_, _, _, hx356, -, -, -, rfl⟩ := hi354.dep 9 44 rfl rfl
              exact OpR.op' rfl (Yl.sameI (yl_move rfl hx356 ⟨fun _ _ => rfl, rfl⟩))
            · intro L357 w358 hi359
              have hE360 := hi359.ex
              have hE360z := Ex.size hE360
              obtain ⟨_, _, _, hx361, -, -, -, rfl⟩ := hi359.dep 10 45 rfl rfl
              exact OpR.skip rfl rfl hx361 hb83 ⟨rfl, Ex.refl _⟩
            · intro L362 w363 hi364
              have hE365 := hi364.ex
              have hE365z := Ex.size hE365
              obtain ⟨_, _, _, hx366, -, -, -, rfl⟩ := hi364.dep 10 45 rfl rfl
              exact OpR.skip rfl rfl hx366 hb83 ⟨rfl, Ex.refl _⟩
            · intro L367 w368 hi369
              have hE370 := hi369.ex
              have hE370z := Ex.size hE370
              obtain ⟨_, _, _, hx371, -, -, -, rfl⟩ := hi369.dep 10 45 rfl rfl
              exact OpR.skip rfl rfl hx371 hb83 ⟨rfl, Ex.refl _⟩
            · intro L372 w373 hi374
              have hE375 := hi374.ex
              have hE375z := Ex.size hE375
              obtain ⟨_, _, _, hx376, -, -, -, rfl⟩ := hi374.dep 10 45 rfl rfl
              exact OpR.skip rfl rfl hx376 hb83 ⟨rfl, Ex.refl _⟩
            · intro L377 w378 hi379
              have hE380 := hi379.ex
              have hE380z := Ex.size hE380
              obtain ⟨_, _, _, hx381, -, -, -, rfl⟩ := hi379.dep 10 45 rfl rfl
              exact OpR.skip rfl rfl hx381 hb83 ⟨rfl, Ex.refl _⟩
            · intro L382 w383 hi384
              have hE385 := hi384.ex
              have hE385z := Ex.size hE385
              obtain ⟨_, _, _, hx386, -, -, -, rfl⟩ := hi384.dep 10 45 rfl rfl
              exact OpR.skip rfl rfl hx386 hb83 ⟨rfl, Ex.refl _⟩
            · intro L387 w388 hi389
              have hE390 := hi389.ex
              have hE390z := Ex.size hE390
              obtain ⟨_, _, _, hx391, -, -, -, rfl⟩ := hi389.dep 10 45 rfl rfl
              exact OpR.skip rfl rfl hx391 hb83 ⟨rfl, Ex.refl _⟩
            · intro L392 w393 hi394
              have hE395 := hi394.ex
              have hE395z := Ex.size hE395
              obtain ⟨_, _, _, hx396, -, -, -, rfl⟩ := hi394.dep 10 45 rfl rfl
              exact OpR.skip rfl rfl hx396 hb83 ⟨rfl, Ex.refl _⟩
            · intro L397 w398 hi399
              have hE400 := hi399.ex
              have hE400z := Ex.size hE400
              obtain ⟨_, _, _, hx401, -, -, -, rfl⟩ := hi399.dep 10 45 rfl rfl
              exact OpR.skip rfl rfl hx401 hb83 ⟨rfl, Ex.refl _⟩
            · intro L402 w403 hi404
              have hE405 := hi404.ex
              have hE405z := Ex.size hE405
              obtain ⟨_, _, _, hx406, -, -, -, rfl⟩ := hi404.dep 10 45 rfl rfl
              exact OpR.skip rfl rfl hx406 hb83 ⟨rfl, Ex.refl _⟩
            · intro L407 w408 hi409
              have hE410 := hi409.ex
              have hE410z := Ex.size hE410
              obtain ⟨_, _, _, hx411, -, -, -, rfl⟩ := hi409.dep 10 45 rfl rfl
              exact OpR.skip rfl rfl hx411 hb83 ⟨rfl, Ex.refl _⟩
            · intro L412 w413 hi414
              have hE415 := hi414.ex
              have hE415z := Ex.size hE415
              obtain ⟨_, _, _, hx416, -, -, -, rfl⟩ := hi414.dep 21 56 rfl rfl
              obtain ⟨_, _, _, hx417, -, -, -, rfl⟩ := hi414.dep 10 45 rfl rfl
              exact OpR.op' rfl (Yl.sameI (yl_pick_f rfl hx417 hb83 rfl ⟨fun _ _ => rfl, rfl⟩))
            · intro L418 w419 hi420
              have hE421 := hi420.ex
              have hE421z := Ex.size hE421
              obtain ⟨_, _, _, hx422, -, -, -, rfl⟩ := hi420.dep 22 57 rfl rfl
              exact OpR.op' rfl (Yl.sameI (yl_assign rfl hx422 ⟨fun _ _ => rfl, rfl⟩))
            · intro fl426 fh427 L423 w424 hp425
              have hE428 := hp425.ex
              have hE428z := Ex.size hE428
              obtain ⟨_, hx429, rfl⟩ := hp425.new 23 4 rfl rfl
              refine SeqR.done ?_
              refine tn ?_
              refine CW.sub (Sub.cons (d := 4) hx429 (Sub.nil _)) ?_
              refine CW.ret ?_
              refine br ?_
              refine tr ?_
              refine rr rfl (.cons rfl .nil) ?_
              have hM430 : (s_l26Good p_t p_a) = (false) := by simp only [s_l26Good, hb24, hb43, hb62, hb71, hb83, cond_true, cond_false, loopE_done, loopE_ret]
              rw [hM430]
              have q431 := Ex.trans (Ex.refl w) hE17
              have q432 := Ex.trans q431 hE23
              have q433 := Ex.trans q432 hE428
              exact ⟨rfl, q433⟩
        · skip
          have q434 := Box.ex hB16 hE23
          have q435 := RdS.ex good_Str h1 hE17
          have q436 := RdS.ex good_Str q435 hE23
          have q437 := RdS.ex good_Idx h2 hE17
          have q438 := RdS.ex good_Idx q437 hE23
          have q439 := RdS.ex good_Str h4 hE17
          have q440 := RdS.ex good_Str q439 hE23
          refine CW.drawsI 24 (vgetI [DetI (.agg #[.string (bs (p_t.Name)), .slice A1 p_t.Cols.length c1, .slice A2 p_t.Idxs.length c2]), DetI (.pointer (some ⟨b18, 0 + 1, none⟩)), DetI (.agg #[.slice A4 p_a.Old.Vals.length c4]), DetI (.bool ((s_l25Good p_t p_a.Old))), DetI (.bool ((s_l25Good p_t p_a.Old))), DetI (undef), DetI (undef), DetI (undef), DetI (undef), DetI (.bool (false)), DetI (.bool (false)), DetI (undef), DetI (undef), DetI (undef), DetI (undef), DetI (undef), DetI (undef), DetI (undef), DetI (undef), DetI (undef), DetI (undef), DetI (undef), DetI (.bool (false)), DetI (.bool (false))]) Try.follows rfl rfl rfl rfl rfl rfl (vgetI_stable ⟨StableI.det _, StableI.det _, StableI.det _, StableI.det _, StableI.det _, StableI.det _, StableI.det _, StableI.det _, StableI.det _, StableI.det _, StableI.det _, StableI.det _, StableI.det _, StableI.det _, StableI.det _, StableI.det _, StableI.det _, StableI.det _, StableI.det _, StableI.det _, StableI.det _, StableI.det _, StableI.det _, StableI.det _, trivial⟩) ⟨?_, ?_, ?_, ?_, ?_, ?_, ?_, ?_, ?_, ?_, ?_, ?_, ?_, ?_, ?_, ?_, ?_, ?_, ?_, ?_, ?_, ?_, ?_, ?_, trivial⟩ ?_
          · intro L442 w443 hi444
            have hE445 := hi444.ex
            have hE445z := Ex.size hE445
            have hx446 := hi444.old 2 _ rfl rfl
            have q447 := Box.ex q434 hE445
            exact OpR.op' rfl (Yl.sameI (yl_loadN (cs := [.string (bs (p_t.Name)), .slice A1 p_t.Cols.length c1, .slice A2 p_t.Idxs.length c2]) Try.ty35 rfl hx446 (q447.cells (n := 3) rfl) rfl ⟨fun _ _ => rfl, rfl⟩))
          · intro L448 w449 hi450
            have hE451 := hi450.ex
            have hE451z := Ex.size hE451
            have hx452 := hi450.old 3 _ rfl rfl
            exact OpR.op' rfl (Yl.sameI (yl_fieldAddr Try.fd39_1 rfl hx452 ⟨fun _ _ => rfl, rfl⟩))
          · intro L453 w454 hi455
            have hE456 := hi455.ex
            have hE456z := Ex.size hE456
            obtain ⟨_, _, _, hx457, -, -, -, rfl⟩ := hi455.dep 1 36 rfl rfl
            have q458 := Box.ex hB22 hE456
            exact OpR.op' rfl (Yl.sameI (yl_loadN (cs := [.slice A4 p_a.Old.Vals.length c4]) Try.ty37 rfl hx457 (q458.cells (n := 1) rfl) rfl ⟨fun _ _ => rfl, rfl⟩))
          · intro L459 w460 hi461
            have hE462 := hi461.ex
            have hE462z := Ex.size hE462
            obtain ⟨_, _, _, hx463, -, -, -, rfl⟩ := hi461.dep 0 35 rfl rfl
            obtain ⟨_, _, _, hx464, -, -, -, rfl⟩ := hi461.dep 2 37 rfl rfl
            have q465 := RdS.ex good_Str q436 hE462
            have q466 := RdS.ex good_Idx q438 hE462
            have q467 := RdS.ex good_Str q440 hE462
            refine OpR.op' rfl (yl_call Try.en87 rfl (opvs_cons hx463 (opvs_cons hx464 opvs_nil)) (Cal.mono (c_s_l25Good p_t p_a.Old (RdS.up q465 good_Str) (RdS.up q466 good_Idx) (RdS.up q467 good_Str) o3 o6.1) ?_))
            rintro v469 w468 ⟨rfl, hE470⟩
            exact ⟨rfl, hE470⟩
          · intro L471 w472 hi473
            have hE474 := hi473.ex
            have hE474z := Ex.size hE474
            obtain ⟨_, _, _, hx475, -, -, -, rfl⟩ := hi473.dep 3 38 rfl rfl
            exact OpR.op' rfl (Yl.sameI (yl_move rfl hx475 ⟨fun _ _ => rfl, rfl⟩))
          · intro L476 w477 hi478
            have hE479 := hi478.ex
            have hE479z := Ex.size hE479
            obtain ⟨_, _, _, hx480, -, -, -, rfl⟩ := hi478.dep 4 39 rfl rfl
            exact OpR.skip rfl rfl hx480 hb71 ⟨rfl, Ex.refl _⟩
          · intro L481 w482 hi483
            have hE484 := hi483.ex
            have hE484z := Ex.size hE484
            obtain ⟨_, _, _, hx485, -, -, -, rfl⟩ := hi483.dep 4 39 rfl rfl
            exact OpR.skip rfl rfl hx485 hb71 ⟨rfl, Ex.refl _⟩
          · intro L486 w487 hi488
            have hE489 := hi488.ex
            have hE489z := Ex.size hE489
            obtain ⟨_, _, _, hx490, -, -, -, rfl⟩ := hi488.dep 4 39 rfl rfl
            exact OpR.skip rfl rfl hx490 hb71 ⟨rfl, Ex.refl _⟩
          · intro L491 w492 hi493
            have hE494 := hi493.ex
            have hE494z := Ex.size hE494
            obtain ⟨_, _, _, hx495, -, -, -, rfl⟩ := hi493.dep 4 39 rfl rfl
            exact OpR.skip rfl rfl hx495 hb71 ⟨rfl, Ex.refl _⟩
          · intro L496 w497 hi498
            have hE499 := hi498.ex
            have hE499z := Ex.size hE499
            obtain ⟨_, _, _, hx500, -, -, -, rfl⟩ := hi498.dep 8 43 rfl rfl
            obtain ⟨_, _, _, hx501, -, -, -, rfl⟩ := hi498.dep 4 39 rfl rfl
            exact OpR.op' rfl (Yl.sameI (yl_pick_f rfl hx501 hb71 rfl ⟨fun _ _ => rfl, rfl⟩))
          · intro L502 w503 hi504
            have hE505 := hi504.ex
            have hE505z := Ex.size hE505
            obtain ⟨_, _, _, hx506, -, -, -, rfl⟩ := hi504.dep 9 44 rfl rfl
            exact OpR.op' rfl (Yl.sameI (yl_move rfl hx506 ⟨fun _ _ => rfl, rfl⟩))
          · intro L507 w508 hi509
            have hE510 := hi509.ex
            have hE510z := Ex.size hE510
            obtain ⟨_, _, _, hx511, -, -, -, rfl⟩ := hi509.dep 10 45 rfl rfl
            exact OpR.skip rfl rfl hx511 rfl ⟨rfl, Ex.refl _⟩
          · intro L512 w513 hi514
            have hE515 := hi514.ex
            have hE515z := Ex.size hE515
            obtain ⟨_, _, _, hx516, -, -, -, rfl⟩ := hi514.dep 10 45 rfl rfl
            exact OpR.skip rfl rfl hx516 rfl ⟨rfl, Ex.refl _⟩
          · intro L517 w518 hi519
            have hE520 := hi519.ex
            have hE520z := Ex.size hE520
            obtain ⟨_, _, _, hx521, -, -, -, rfl⟩ := hi519.dep 10 45 rfl rfl
            exact OpR.skip rfl rfl hx521 rfl ⟨rfl, Ex.refl _⟩
          · intro L522 w523 hi524
            have hE525 := hi524.ex
            have hE525z := Ex.size hE525
            obtain ⟨_, _, _, hx526, -, -, -, rfl⟩ := hi524.dep 10 45 rfl rfl
            exact OpR.skip rfl rfl hx526 rfl ⟨rfl, Ex.refl _⟩
          · intro L527 w528 hi529
            have hE530 := hi529.ex
            have hE530z := Ex.size hE530
            obtain ⟨_, _, _, hx531, -, -, -, rfl⟩ := hi529.dep 10 45 rfl rfl
            exact OpR.skip rfl rfl hx531 rfl ⟨rfl, Ex.refl _⟩
          · intro L532 w533 hi534
            have hE535 := hi534.ex
            have hE535z := Ex.size hE535
            obtain ⟨_, _, _, hx536, -, -, -, rfl⟩ := hi534.dep 10 45 rfl rfl
            exact OpR.skip rfl rfl hx536 rfl ⟨rfl, Ex.refl _⟩
          · intro L537 w538 hi539
            have hE540 := hi539.ex
            have hE540z := Ex.size hE540
            obtain ⟨_, _, _, hx541, -, -, -, rfl⟩ := hi539.dep 10 45 rfl rfl
            exact OpR.skip rfl rfl hx541 rfl ⟨rfl, Ex.refl _⟩
          · intro L542 w543 hi544
            have hE545 := hi544.ex
            have hE545z := Ex.size hE545
            obtain ⟨_, _, _, hx546, -, -, -, rfl⟩ := hi544.dep 10 45 rfl rfl
            exact OpR.skip rfl rfl hx546 rfl ⟨rfl, Ex.refl _⟩
          · intro L547 w548 hi549
            have hE550 := hi549.ex
            have hE550z := Ex.size hE550
            obtain ⟨_, _, _, hx551, -, -, -, rfl⟩ := hi549.dep 10 45 rfl rfl
            exact OpR.skip rfl rfl hx551 rfl ⟨rfl, Ex.refl _⟩
          · intro L552 w553 hi554
            have hE555 := hi554.ex
            have hE555z := Ex.size hE555
            obtain ⟨_, _, _, hx556, -, -, -, rfl⟩ := hi554.dep 10 45 rfl rfl
            exact OpR.skip rfl rfl hx556 rfl ⟨rfl, Ex.refl _⟩
          · intro L557 w558 hi559
            have hE560 := hi559.ex
            have hE560z := Ex.size hE560
            obtain ⟨_, _, _, hx561, -, -, -, rfl⟩ := hi559.dep 10 45 rfl rfl
            exact OpR.skip rfl rfl hx561 rfl ⟨rfl, Ex.refl _⟩
          · intro L562 w563 hi564
            have hE565 := hi564.ex
            have hE565z := Ex.size hE565
            obtain ⟨_, _, _, hx566, -, -, -, rfl⟩ := hi564.dep 21 56 rfl rfl
            obtain ⟨_, _, _, hx567, -, -, -, rfl⟩ := hi564.dep 10 45 rfl rfl
            exact OpR.op' rfl (Yl.sameI (yl_pick_f rfl hx567 rfl rfl ⟨fun _ _ => rfl, rfl⟩))
          · intro L568 w569 hi570
            have hE571 := hi570.ex
            have hE571z := Ex.size hE571
            obtain ⟨_, _, _, hx572, -, -, -, rfl⟩ := hi570.dep 22 57 rfl rfl
            exact OpR.op' rfl (Yl.sameI (yl_assign rfl hx572 ⟨fun _ _ => rfl, rfl⟩))
          · intro fl576 fh577 L573 w574 hp575
            have hE578 := hp575.ex
            have hE578z := Ex.size hE578
            obtain ⟨_, hx579, rfl⟩ := hp575.new 23 4 rfl rfl
            refine SeqR.done ?_
            refine tn ?_
            refine CW.sub (Sub.cons (d := 4) hx579 (Sub.nil _)) ?_
            refine CW.ret ?_
            refine br ?_
            refine tr ?_
            refine rr rfl (.cons rfl .nil) ?_
            have hM580 : (s_l26Good p_t p_a) = (false) := by simp only [s_l26Good, hb24, hb43, hb62, hb71, cond_true, cond_false, loopE_done, loopE_ret]
            rw [hM580]
            have q581 := Ex.trans (Ex.refl w) hE17
            have q582 := Ex.trans q581 hE23
            have q583 := Ex.trans q582 hE578
            exact ⟨rfl, q583⟩
      · have hb62p := dec_f hb62
        refine CW.cond_f rfl hb62 ?_
        refine CW.skip ?_
        refine bn ?_
        refine tn ?_
        refine CW.seq ?_
        refine CW.region ?_
        refine SeqR.d1 rfl rfl rfl (yl_assign rfl rfl ?_)
        refine SeqR.done ?_
        refine tn ?_
        refine CW.ret ?_
        refine rr rfl (.cons rfl .nil) ?_
        have hM584 : (s_l26Good p_t p_a) = (false) := by simp only [s_l26Good, hb24, hb43, hb62, cond_true, cond_false, loopE_done, loopE_ret]
        rw [hM584]
        have q585 := Ex.trans (Ex.refl w) hE17
        have q586 := Ex.trans q585 hE23
        exact ⟨rfl, q586⟩
set_option maxRecDepth 100000 in
set_option maxHeartbeats 2000000 in
theorem c_s_l27Empty {A1 : Option Addr} {c1 : Nat} {A2 : Option Addr} {c2 : Nat} {w : World} (p_a : DRowAct) (h1 : RdS w (Iv 0 w.heap.size) (RF e_Str) 1 A1 p_a.Old.Vals.length c1 p_a.Old.Vals) (h2 : RdS w (Iv 0 w.heap.size) (RF e_Str) 1 A2 p_a.New.Vals.length c2 p_a.New.Vals) (o3 : ok_RowAct p_a) : Cal Try.prog 146 #[.agg #[.int .i64 (p_a.Kind), .slice A1 p_a.Old.Vals.length c1, .slice A2 p_a.New.Vals.length c2]] w fun v w' => v = .bool ((s_l27Empty p_a)) ∧ Ex w w' := by
  have hol4 := o3.1.1
  have hol5 := o3.2.1
  refine Cal.of (vs := [.agg #[.int .i64 (p_a.Kind), .slice A1 p_a.Old.Vals.length c1, .slice A2 p_a.New.Vals.length c2]]) Try.func146 rfl Try.ntmps146 rfl ?_
  refine CW.seq ?_
  refine CW.region ?_
  refine SeqR.d1 rfl rfl rfl (yl_box (cs := [.int .i64 (p_a.Kind), .slice A1 p_a.Old.Vals.length c1, .slice A2 p_a.New.Vals.length c2]) rfl rfl rfl ?_)
  intro b6 w7 hs8 hz9 hB10 hE11
  refine SeqR.d1 rfl rfl rfl (yl_assign rfl rfl ?_)
  refine SeqR.done ?_
  refine tn ?_
  refine CW.seq ?_
  refine CW.region ?_
  refine SeqR.d1 rfl rfl rfl (yl_fieldAddr Try.fd39_0 rfl rfl ?_)
  refine SeqR.d1 rfl rfl rfl (yl_load1 Try.ty3 rfl rfl ((hB10.cell 0).trans rfl) ?_)
  refine SeqR.d1 rfl rfl rfl (yl_eql rfl rfl rfl ?_)
  refine SeqR.d1 rfl rfl rfl (yl_move rfl rfl ?_)
  refine bcase (decide (p_a.Kind = 0)) (fun hb12 => ?_) (fun hb12 => ?_)
  · have hb12p := dec_t hb12
    refine SeqR.y rfl rfl rfl rfl rfl hb12 (yl_fieldAddr Try.fd39_1 rfl rfl ?_)
    refine SeqR.y rfl rfl rfl rfl rfl hb12 (yl_fieldAddr Try.fd37_0 rfl rfl ?_)
    refine SeqR.y rfl rfl rfl rfl rfl hb12 (yl_load1 Try.ty22 rfl rfl ((hB10.cell 1).trans rfl) ?_)
    refine SeqR.y rfl rfl rfl rfl rfl hb12 (yl_len Try.un22 rfl rfl ?_)
    refine SeqR.y rfl rfl rfl rfl rfl hb12 (yl_eql rfl rfl rfl ?_)
    refine SeqR.d1 rfl rfl rfl (yl_pick_t rfl rfl hb12 rfl ?_)
    refine SeqR.d1 rfl rfl rfl (yl_move rfl rfl ?_)
    refine bcase (decide ((p_a.Old.Vals.length : Int) = 0)) (fun hb13 => ?_) (fun hb13 => ?_)
    · have hb13p := dec_t hb13
      refine SeqR.y rfl rfl rfl rfl rfl hb13 (yl_fieldAddr Try.fd39_2 rfl rfl ?_)
      refine SeqR.y rfl rfl rfl rfl rfl hb13 (yl_fieldAddr Try.fd37_0 rfl rfl ?_)
      refine SeqR.y rfl rfl rfl rfl rfl hb13 (yl_load1 Try.ty22 rfl rfl ((hB10.cell 2).trans rfl) ?_)
      refine SeqR.y rfl rfl rfl rfl rfl hb13 (yl_len Try.un22 rfl rfl ?_)
      refine SeqR.y rfl rfl rfl rfl rfl hb13 (yl_eql rfl rfl rfl ?_)
      refine SeqR.d1 rfl rfl rfl (yl_pick_t rfl rfl hb13 rfl ?_)
      refine SeqR.d1 rfl rfl rfl (yl_assign rfl rfl ?_)
      refine SeqR.done ?_
      refine tn ?_
      refine CW.ret ?_
      refine rr rfl (.cons rfl .nil) ?_
      have hM14 : (s_l27Empty p_a) = (decide ((p_a.New.Vals.length : Int) = 0)) := by simp only [s_l27Empty, hb12, hb13, cond_true, cond_false, loopE_done, loopE_ret]
      rw [hM14]
      have q15 := Ex.trans (Ex.refl w) hE11
      exact ⟨rfl, q15⟩
    · have hb13p := dec_f hb13
      refine SeqR.z rfl rfl rfl rfl rfl hb13 ?_
      refine SeqR.z rfl rfl rfl rfl rfl hb13 ?_
      refine SeqR.z rfl rfl rfl rfl rfl hb13 ?_
      refine SeqR.z rfl rfl rfl rfl rfl hb13 ?_
      refine SeqR.z rfl rfl rfl rfl rfl hb13 ?_
      refine SeqR.d1 rfl rfl rfl (yl_pick_f rfl rfl hb13 rfl ?_)
      refine SeqR.d1 rfl rfl rfl (yl_assign rfl rfl ?_)
      refine SeqR.done ?_
      refine tn ?_
      refine CW.ret ?_
      refine rr rfl (.cons rfl .nil) ?_
      have hM16 : (s_l27Empty p_a) = (false) := by simp only [s_l27Empty, hb12, hb13, cond_true, cond_false, loopE_done, loopE_ret]
      rw [hM16]
      have q17 := Ex.trans (Ex.refl w) hE11
      exact ⟨rfl, q17⟩
  · have hb12p := dec_f hb12
    refine SeqR.z rfl rfl rfl rfl rfl hb12 ?_
    refine SeqR.z rfl rfl rfl rfl rfl hb12 ?_
    refine SeqR.z rfl rfl rfl rfl rfl hb12 ?_
    refine SeqR.z rfl rfl rfl rfl rfl hb12 ?_
    refine SeqR.z rfl rfl rfl rfl rfl hb12 ?_
    refine SeqR.d1 rfl rfl rfl (yl_pick_f rfl rfl hb12 rfl ?_)
    refine SeqR.d1 rfl rfl rfl (yl_move rfl rfl ?_)
    refine SeqR.z rfl rfl rfl rfl rfl rfl ?_
    refine SeqR.z rfl rfl rfl rfl rfl rfl ?_
    refine SeqR.z rfl rfl rfl rfl rfl rfl ?_
    refine SeqR.z rfl rfl rfl rfl rfl rfl ?_
    refine SeqR.z rfl rfl rfl rfl rfl rfl ?_
    refine SeqR.d1 rfl rfl rfl (yl_pick_f rfl rfl rfl rfl ?_)
    refine SeqR.d1 rfl rfl rfl (yl_assign rfl rfl ?_)
    refine SeqR.done ?_
    refine tn ?_
    refine CW.ret ?_
    refine rr rfl (.cons rfl .nil) ?_
    have hM18 : (s_l27Empty p_a) = (false) := by simp only [s_l27Empty, hb12, cond_true, cond_false, loopE_done, loopE_ret]
    rw [hM18]
    have q19 := Ex.trans (Ex.refl w) hE11
    exact ⟨rfl, q19⟩
set_option maxRecDepth 100000 in
set_option maxHeartbeats 2000000 in
theorem c_s_l24Idx {A1 : Option Addr} {c1 : Nat} {A2 : Option Addr} {c2 : Nat} {w : World} (p_t : DTable) (p_name : Str) (h1 : RdS w (Iv 0 w.heap.size) (RF e_Str) 1 A1 p_t.Cols.length c1 p_t.Cols) (h2 : RdS w (Iv 0 w.heap.size) (RF e_Idx) 3 A2 p_t.Idxs.length c2 p_t.Idxs) (o3 : ok_Table p_t) (o4 : okS p_name) : Cal Try.prog 148 #[.agg #[.string (bs (p_t.Name)), .slice A1 p_t.Cols.length c1, .slice A2 p_t.Idxs.length c2], .string (bs (p_name))] w fun v w' => v = .int .i64 ((s_l24Idx p_t p_name)) ∧ Ex w w' := by
  have hol5 : p_t.Name.length ≤ 1073741824 := o3.1
  have hol6 := o3.2.1.1
  have hol7 := o3.2.2.1
  have hol8 : p_name.length ≤ 1073741824 := o4
  refine Cal.of (vs := [.agg #[.string (bs (p_t.Name)), .slice A1 p_t.Cols.length c1, .slice A2 p_t.Idxs.length c2], .string (bs (p_name))]) Try.func148 rfl Try.ntmps148 rfl ?_
  refine CW.seq ?_
  refine CW.region ?_
  refine SeqR.d1 rfl rfl rfl (yl_box (cs := [.string (bs (p_t.Name)), .slice A1 p_t.Cols.length c1, .slice A2 p_t.Idxs.length c2]) rfl rfl rfl ?_)
  intro b9 w10 hs11 hz12 hB13 hE14
  refine SeqR.d1 rfl rfl rfl (yl_assign rfl rfl ?_)
  refine SeqR.done ?_
  refine tn ?_
  refine CW.seq ?_
  refine CW.seq ?_
  refine CW.region ?_
  refine SeqR.d1 rfl rfl rfl (yl_fieldAddr Try.fd35_2 rfl rfl ?_)
  refine SeqR.d1 rfl rfl rfl (yl_load1 Try.ty33 rfl rfl ((hB13.cell 2).trans rfl) ?_)
  refine SeqR.d1 rfl rfl rfl (yl_len Try.un33 rfl rfl ?_)
  refine SeqR.d1 rfl rfl rfl (yl_move rfl rfl ?_)
  refine SeqR.done ?_
  refine tn ?_
  refine CW.block ?_
  have q30 := RdS.ex good_Idx h2 hE14
  have q31 := Ex.trans (Ex.refl w) hE14
  refine CW.loop (fun m27 L28 w29 => ∃ (k15 : Nat), m27 = p_t.Idxs.length - k15 ∧ k15 ≤ p_t.Idxs.length ∧ w10.heap.size ≤ w29.heap.size ∧ lkp L28 1 = some (.string (bs (p_name))) ∧ lkp L28 8 = some (.slice A2 p_t.Idxs.length c2) ∧ lkp L28 9 = some (.int .i64 ((p_t.Idxs.length : Int))) ∧ lkp L28 10 = some (.int .i64 ((k15 : Int))) ∧ RdS w29 (Iv 0 w.heap.size) (RF e_Idx) 3 A2 p_t.Idxs.length c2 p_t.Idxs ∧ Ex w w29 ∧ loopM (B_s_l24Idx_0 p_t p_name) (p_t.Idxs.length - k15) k15 () = loopM (B_s_l24Idx_0 p_t p_name) (p_t.Idxs.length - 0) 0 ()) (p_t.Idxs.length - 0) ?_ ?_
  · exact ⟨0, rfl, (by omega), Nat.le_refl _, rfl, rfl, rfl, rfl, q30, q31, rfl⟩
  · rintro m32 L33 w34 ⟨k15, rfl, hk35, hsz37, hl38, hl39, hl40, hl41, hf42, hf43, hI36⟩
    refine CW.sub (Sub.cons hl38 (Sub.cons hl39 (Sub.cons hl40 (Sub.cons hl41 (Sub.nil _))))) ?_
    have hf43z := Ex.size hf43
    have hbg44 := RdS.big hf42
    rcases Nat.lt_or_ge k15 p_t.Idxs.length with hlt45 | hlt45
    · skip
      refine CW.seq ?_
      refine CW.region ?_
      refine SeqR.d1 rfl rfl rfl (yl_lss rfl rfl rfl ?_)
      refine SeqR.done ?_
      refine tn ?_
      refine CW.seq ?_
      refine CW.cond_t rfl (lt_t hlt45) ?_
      refine CW.skip ?_
      refine tn ?_
      refine CW.seq ?_
      refine CW.block ?_
      refine CW.seq ?_
      refine CW.region ?_
      refine SeqR.d1 rfl rfl rfl (yl_move rfl rfl ?_)
      obtain ⟨eb46, eo46, ec46, eA46, eS46, ebl46, el46, eR46, eC46⟩ := RdS.atD hf42 d_Idx (i := k15) (by first | omega | assumption)
      obtain rfl := eR46
      have eC46 : Cells w34 eb46 (eo46 + k15 * 3) [.string (bs ((p_t.Idxs.getD k15 d_Idx).Name)), .int .i64 ((p_t.Idxs.getD k15 d_Idx).Col), .int .i64 ((p_t.Idxs.getD k15 d_Idx).Stage)] := eC46
      refine SeqR.d1 rfl rfl rfl (yl_indexAddrN Try.un33 Try.ty132 rfl rfl rfl eA46 (by first | omega | assumption | (simp only [IntKind.wrap_i64] at *; omega)) ?_)
      refine SeqR.d1 rfl rfl rfl (yl_loadN (cs := [.string (bs ((p_t.Idxs.getD k15 d_Idx).Name)), .int .i64 ((p_t.Idxs.getD k15 d_Idx).Col), .int .i64 ((p_t.Idxs.getD k15 d_Idx).Stage)]) Try.ty132 rfl rfl eC46 rfl ?_)
      refine SeqR.d1 rfl rfl rfl (yl_alloc Try.ty132 (cs := [.string (bs (([] : Str))), .int .i64 (0), .int .i64 (0)]) rfl rfl ?_)
      intro b47 w48 hs49 hz50 hB51 hE52
      refine SeqR.d1 rfl rfl rfl (yl_assign rfl rfl ?_)
      refine SeqR.u rfl rfl (yl_store (vs := [.string (bs ((p_t.Idxs.getD k15 d_Idx).Name)), .int .i64 ((p_t.Idxs.getD k15 d_Idx).Col), .int .i64 ((p_t.Idxs.getD k15 d_Idx).Stage)]) Try.ty132 rfl rfl rfl rfl rfl rfl hB51 (Nat.le_of_ble_eq_true rfl) ?_)
      intro w53 hB54 hO55
      have hB54 : Box w53 b47 132 [.string (bs ((p_t.Idxs.getD k15 d_Idx).Name)), .int .i64 ((p_t.Idxs.getD k15 d_Idx).Col), .int .i64 ((p_t.Idxs.getD k15 d_Idx).Stage)] := hB54
      have hO55z := hO55.size
      refine SeqR.done ?_
      refine tn ?_
      refine CW.seq ?_
      refine CW.region ?_
      refine SeqR.d1 rfl rfl rfl (yl_fieldAddr Try.fd132_0 rfl rfl ?_)
      refine SeqR.d1 rfl rfl rfl (yl_load1 Try.ty9 rfl rfl ((hB54.cell 0).trans rfl) ?_)
      refine SeqR.d1 rfl rfl rfl (yl_move rfl rfl ?_)
      refine SeqR.d1 rfl rfl rfl (yl_seql (a := ((p_t.Idxs.getD k15 d_Idx).Name)) (b := p_name) rfl rfl rfl ?_)
      refine SeqR.done ?_
      refine tn ?_
      refine bcase (((p_t.Idxs.getD k15 d_Idx).Name) == p_name) (fun hb56 => ?_) (fun hb56 => ?_)
      · skip
        refine CW.cond_t rfl hb56 ?_
        refine CW.seq ?_
        refine CW.region ?_
        refine SeqR.d1 rfl rfl rfl (yl_move rfl rfl ?_)
        refine SeqR.d1 rfl rfl rfl (yl_assign rfl rfl ?_)
        refine SeqR.done ?_
        refine tn ?_
        refine CW.ret ?_
        refine br ?_
        refine tr ?_
        refine tr ?_
        have hB58 : B_s_l24Idx_0 p_t p_name k15 () = .ret (k15 : Int) := by simp only [B_s_l24Idx_0, hb56, cond_true, cond_false, loopE_done, loopE_ret]
        have hL57 : loopM (B_s_l24Idx_0 p_t p_name) (p_t.Idxs.length - 0) 0 () = .ret (k15 : Int) := hI36.symm.trans (loopM.ret hlt45 hB58)
        refine br ?_
        refine tr ?_
        refine rr rfl (.cons rfl .nil) ?_
        have hM59 : (s_l24Idx p_t p_name) = ((k15 : Int)) := by simp only [s_l24Idx, hb56, hL57, cond_true, cond_false, loopE_done, loopE_ret]
        rw [hM59]
        have q60 := Ex.trans hf43 hE52
        have q61 := Below.only q60 hO55 (by omega)
        exact ⟨rfl, q61⟩
      · skip
        refine CW.cond_f rfl hb56 ?_
        refine CW.skip ?_
        refine bn ?_
        refine tn ?_
        refine CW.region ?_
        refine SeqR.d1 rfl rfl rfl (yl_inc rfl rfl rfl (by omega) ?_)
        refine SeqR.d1 rfl rfl rfl (yl_move rfl rfl ?_)
        refine SeqR.done ?_
        refine tn ?_
        have hB62 : B_s_l24Idx_0 p_t p_name k15 () = .cont () := by simp only [B_s_l24Idx_0, hb56, cond_true, cond_false, loopE_done, loopE_ret]
        have q63 := RdS.ex good_Idx hf42 hE52
        have q64 := RdS.only good_Idx q63 hO55 (by simp only [Iv]; omega)
        have q65 := Ex.trans hf43 hE52
        have q66 := Below.only q65 hO55 (by omega)
        exact ⟨p_t.Idxs.length - (k15 + 1), by omega, k15 + 1, rfl, hlt45, (by omega), rfl, rfl, rfl, rfl, q64, q66, (loopM.cont hlt45 hB62).symm.trans hI36⟩
    · skip
      refine CW.seq ?_
      refine CW.region ?_
      refine SeqR.d1 rfl rfl rfl (yl_lss rfl rfl rfl ?_)
      refine SeqR.done ?_
      refine tn ?_
      refine CW.seq ?_
      refine CW.cond_f rfl (lt_f hlt45) ?_
      refine CW.exit ?_
      refine tx ?_
      refine tx ?_
      have hL67 : loopM (B_s_l24Idx_0 p_t p_name) (p_t.Idxs.length - 0) 0 () = .done () := hI36.symm.trans (loopM.stop hlt45)
      refine bx ?_
      refine tn ?_
      refine CW.seq ?_
      refine CW.region ?_
      refine SeqR.d1 rfl rfl rfl (yl_assign rfl rfl ?_)
      refine SeqR.done ?_
      refine tn ?_
      refine CW.ret ?_
      refine rr rfl (.cons rfl .nil) ?_
      have hM68 : (s_l24Idx p_t p_name) = (-1) := by simp only [s_l24Idx, hL67, cond_true, cond_false, loopE_done, loopE_ret]
      rw [hM68]
      exact ⟨rfl, hf43⟩
set_option maxRecDepth 100000 in
set_option maxHeartbeats 2000000 in
theorem c_s_l30Good {A1 : Option Addr} {c1 : Nat} {A2 : Option Addr} {c2 : Nat} {A4 : Option Addr} {c4 : Nat} {A5 : Option Addr} {c5 : Nat} {w : World} (p_0 : DTable) (p_1 : DStmt) (h1 : RdS w (Iv 0 w.heap.size) (RF e_Str) 1 A1 p_0.Cols.length c1 p_0.Cols) (h2 : RdS w (Iv 0 w.heap.size) (RF e_Idx) 3 A2 p_0.Idxs.length c2 p_0.Idxs) (h4 : RdS w (Iv 0 w.heap.size) (RF e_Str) 1 A4 p_1.Act.Old.Vals.length c4 p_1.Act.Old.Vals) (h5 : RdS w (Iv 0 w.heap.size) (RF e_Str) 1 A5 p_1.Act.New.Vals.length c5 p_1.Act.New.Vals) (o3 : ok_Table p_0) (o6 : ok_Stmt p_1) (pre0 : 0 < p_0.Cols.length) : Cal Try.prog 76 #[.agg #[.string (bs (p_0.Name)), .slice A1 p_0.Cols.length c1, .slice A2 p_0.Idxs.length c2], .agg #[.int .i64 (p_1.Kind), .int .i64 (p_1.Act.Kind), .slice A4 p_1.Act.Old.Vals.length c4, .slice A5 p_1.Act.New.Vals.length c5, .string (bs (p_1.Idx)), .string (bs (p_1.Low)), .string (bs (p_1.High))]] w fun v w' => v = .bool ((s_l30Good p_0 p_1)) ∧ Ex w w' := by
  have hol7 : p_0.Name.length ≤ 1073741824 := o3.1
  have hol8 := o3.2.1.1
  have hol9 := o3.2.2.1
  have hol10 := o6.1.1.1
  have hol11 := o6.1.2.1
  have hol12 : p_1.Idx.length ≤ 1073741824 := o6.2.1
  have hol13 : p_1.Low.length ≤ 1073741824 := o6.2.2.1
  have hol14 : p_1.High.length ≤ 1073741824 := o6.2.2.2
  refine Cal.of (vs := [.agg #[.string (bs (p_0.Name)), .slice A1 p_0.Cols.length c1, .slice A2 p_0.Idxs.length c2], .agg #[.int .i64 (p_1.Kind), .int .i64 (p_1.Act.Kind), .slice A4 p_1.Act.Old.Vals.length c4, .slice A5 p_1.Act.New.Vals.length c5, .string (bs (p_1.Idx)), .string (bs (p_1.Low)), .string (bs (p_1.High))]]) Try.func76 rfl Try.ntmps76 rfl ?_
  refine CW.seq ?_
  refine CW.region ?_
  refine SeqR.d1 rfl rfl rfl (yl_box (cs := [.string (bs (p_0.Name)), .slice A1 p_0.Cols.length c1, .slice A2 p_0.Idxs.length c2]) rfl rfl rfl ?_)
  intro b15 w16 hs17 hz18 hB19 hE20
  refine SeqR.d1 rfl rfl rfl (yl_box (cs := [.int .i64 (p_1.Kind), .int .i64 (p_1.Act.Kind), .slice A4 p_1.Act.Old.Vals.length c4, .slice A5 p_1.Act.New.Vals.length c5, .string (bs (p_1.Idx)), .string (bs (p_1.Low)), .string (bs (p_1.High))]) rfl rfl rfl ?_)
  intro b21 w22 hs23 hz24 hB25 hE26
  refine SeqR.d1 rfl rfl rfl (yl_assign rfl rfl ?_)
  refine SeqR.done ?_
  refine tn ?_
  refine CW.seq ?_
  refine CW.seq ?_
  refine CW.region ?_
  refine SeqR.d1 rfl rfl rfl (yl_fieldAddr Try.fd49_0 rfl rfl ?_)
  refine SeqR.d1 rfl rfl rfl (yl_load1 Try.ty3 rfl rfl ((hB25.cell 0).trans rfl) ?_)
  refine SeqR.done ?_
  refine tn ?_
  refine CW.block ?_
  refine CW.seq ?_
  refine CW.region ?_
  refine SeqR.d1 rfl rfl rfl (yl_eql rfl rfl rfl ?_)
  refine SeqR.d1 rfl rfl rfl (yl_assign rfl rfl ?_)
  refine SeqR.done ?_
  refine tn ?_
  refine bcase (decide (p_1.Kind = 1)) (fun hb27 => ?_) (fun hb27 => ?_)
  · have hb27p := dec_t hb27
    refine CW.cond_t rfl hb27 ?_
    refine CW.seq ?_
    refine CW.region ?_
    have q28 := Box.ex hB19 hE26
    refine SeqR.d1 rfl rfl rfl (yl_loadN (cs := [.string (bs (p_0.Name)), .slice A1 p_0.Cols.length c1, .slice A2 p_0.Idxs.length c2]) Try.ty35 rfl rfl (q28.cells (n := 3) rfl) rfl ?_)
    refine SeqR.d1 rfl rfl rfl (yl_fieldAddr Try.fd49_1 rfl rfl ?_)
    refine SeqR.d1 rfl rfl rfl (yl_loadN (cs := [.int .i64 (p_1.Act.Kind), .slice A4 p_1.Act.Old.Vals.length c4, .slice A5 p_1.Act.New.Vals.length c5]) Try.ty39 rfl rfl (hB25.cells (n := 3) rfl) rfl ?_)
    have q29 := RdS.ex good_Str h1 hE20
    have q30 := RdS.ex good_Str q29 hE26
    have q31 := RdS.ex good_Idx h2 hE20
    have q32 := RdS.ex good_Idx q31 hE26
    have q33 := RdS.ex good_Str h4 hE20
    have q34 := RdS.ex good_Str q33 hE26
    have q35 := RdS.ex good_Str h5 hE20
    have q36 := RdS.ex good_Str q35 hE26
    refine SeqR.d1 rfl rfl rfl (yl_call Try.en69 rfl (opvs_cons rfl (opvs_cons rfl opvs_nil)) (Cal.mono (c_s_l26Good p_0 p_1.Act (RdS.up q30 good_Str) (RdS.up q32 good_Idx) (RdS.up q34 good_Str) (RdS.up q36 good_Str) o3 o6.1 (by first | omega | assumption | (simp only [IntKind.wrap_i64] at *; omega))) ?_))
    rintro v38 w37 ⟨rfl, hE39⟩
    have hE39z := Ex.size hE39
    refine SeqR.d1 rfl rfl rfl (yl_move rfl rfl ?_)
    refine bcase (s_l26Good p_0 p_1.Act) (fun hb40 => ?_) (fun hb40 => ?_)
    · skip
      refine SeqR.y rfl rfl rfl rfl rfl hb40 (yl_fieldAddr Try.fd49_2 rfl rfl ?_)
      have q41 := Box.ex hB25 hE39
      refine SeqR.y rfl rfl rfl rfl rfl hb40 (yl_load1 Try.ty9 rfl rfl ((q41.cell 4).trans rfl) ?_)
      refine SeqR.y rfl rfl rfl rfl rfl hb40 (yl_seql (a := p_1.Idx) (b := ([] : Str)) rfl rfl rfl ?_)
      refine SeqR.d1 rfl rfl rfl (yl_pick_t rfl rfl hb40 rfl ?_)
      refine SeqR.d1 rfl rfl rfl (yl_move rfl rfl ?_)
      refine bcase (p_1.Idx == ([] : Str)) (fun hb42 => ?_) (fun hb42 => ?_)
      · skip
        refine SeqR.y rfl rfl rfl rfl rfl hb42 (yl_fieldAddr Try.fd49_3 rfl rfl ?_)
        refine SeqR.y rfl rfl rfl rfl rfl hb42 (yl_load1 Try.ty9 rfl rfl ((q41.cell 5).trans rfl) ?_)
        refine SeqR.y rfl rfl rfl rfl rfl hb42 (yl_seql (a := p_1.Low) (b := ([] : Str)) rfl rfl rfl ?_)
        refine SeqR.d1 rfl rfl rfl (yl_pick_t rfl rfl hb42 rfl ?_)
        refine SeqR.d1 rfl rfl rfl (yl_move rfl rfl ?_)
        refine bcase (p_1.Low == ([] : Str)) (fun hb43 => ?_) (fun hb43 => ?_)
        · skip
          refine SeqR.y rfl rfl rfl rfl rfl hb43 (yl_fieldAddr Try.fd49_4 rfl rfl ?_)
          refine SeqR.y rfl rfl rfl rfl rfl hb43 (yl_load1 Try.ty9 rfl rfl ((q41.cell 6).trans rfl) ?_)
          refine SeqR.y rfl rfl rfl rfl rfl hb43 (yl_seql (a := p_1.High) (b := ([] : Str)) rfl rfl rfl ?_)
          refine SeqR.d1 rfl rfl rfl (yl_pick_t rfl rfl hb43 rfl ?_)
          refine SeqR.d1 rfl rfl rfl (yl_assign rfl rfl ?_)
          refine SeqR.done ?_
          refine tn ?_
          refine CW.ret ?_
          refine br ?_
          refine tr ?_
          refine rr rfl (.cons rfl .nil) ?_
          have hM44 : (s_l30Good p_0 p_1) = (p_1.High == ([] : Str)) := by simp only [s_l30Good, hb27, hb40, hb42, hb43, cond_true, cond_false, loopE_done, loopE_ret]
          rw [hM44]
          have q45 := Ex.trans (Ex.refl w) hE20
          have q46 := Ex.trans q45 hE26
          have q47 := Ex.trans q46 hE39
          exact ⟨rfl, q47⟩
        · skip
          refine SeqR.z rfl rfl rfl rfl rfl hb43 ?_
          refine SeqR.z rfl rfl rfl rfl rfl hb43 ?_
          refine SeqR.z rfl rfl rfl rfl rfl hb43 ?_
          refine SeqR.d1 rfl rfl rfl (yl_pick_f rfl rfl hb43 rfl ?_)
          refine SeqR.d1 rfl rfl rfl (yl_assign rfl rfl ?_)
          refine SeqR.done ?_
          refine tn ?_
          refine CW.ret ?_
          refine br ?_
          refine tr ?_
          refine rr rfl (.cons rfl .nil) ?_
          have hM48 : (s_l30Good p_0 p_1) = (false) := by simp only [s_l30Good, hb27, hb40, hb42, hb43, cond_true, cond_false, loopE_done, loopE_ret]
          rw [hM48]
          have q49 := Ex.trans (Ex.refl w) hE20
          have q50 := Ex.trans q49 hE26
          have q51 := Ex.trans q50 hE39
          exact ⟨rfl, q51⟩
      · skip
        refine SeqR.z rfl rfl rfl rfl rfl hb42 ?_
        refine SeqR.z rfl rfl rfl rfl rfl hb42 ?_
        refine SeqR.z rfl rfl rfl rfl rfl hb42 ?_
        refine SeqR.d1 rfl rfl rfl (yl_pick_f rfl rfl hb42 rfl ?_)
        refine SeqR.d1 rfl rfl rfl (yl_move rfl rfl ?_)
        refine SeqR.z rfl rfl rfl rfl rfl rfl ?_
        refine SeqR.z rfl rfl rfl rfl rfl rfl ?_
        refine SeqR.z rfl rfl rfl rfl rfl rfl ?_
        refine SeqR.d1 rfl rfl rfl (yl_pick_f rfl rfl rfl rfl ?_)
        refine SeqR.d1 rfl rfl rfl (yl_assign rfl rfl ?_)
        refine SeqR.done ?_
        refine tn ?_
        refine CW.ret ?_
        refine br ?_
        refine tr ?_
        refine rr rfl (.cons rfl .nil) ?_
        have hM52 : (s_l30Good p_0 p_1) = (false) := by simp only [s_l30Good, hb27, hb40, hb42, cond_true, cond_false, loopE_done, loopE_ret]
        rw [hM52]
        have q53 := Ex.trans (Ex.refl w) hE20
        have q54 := Ex.trans q53 hE26
        have q55 := Ex.trans q54 hE39
        exact ⟨rfl, q55⟩
    · skip
      refine SeqR.z rfl rfl rfl rfl rfl hb40 ?_
      refine SeqR.z rfl rfl rfl rfl rfl hb40 ?_
      refine SeqR.z rfl rfl rfl rfl rfl hb40 ?_
      refine SeqR.d1 rfl rfl rfl (yl_pick_f rfl rfl hb40 rfl ?_)
      refine SeqR.d1 rfl rfl rfl (yl_move rfl rfl ?_)
      refine SeqR.z rfl rfl rfl rfl rfl rfl ?_
      refine SeqR.z rfl rfl rfl rfl rfl rfl ?_
      refine SeqR.z rfl rfl rfl rfl rfl rfl ?_
      refine SeqR.d1 rfl rfl rfl (yl_pick_f rfl rfl rfl rfl ?_)
      refine SeqR.d1 rfl rfl rfl (yl_move rfl rfl ?_)
      refine SeqR.z rfl rfl rfl rfl rfl rfl ?_
      refine SeqR.z rfl rfl rfl rfl rfl rfl ?_
      refine SeqR.z rfl rfl rfl rfl rfl rfl ?_
      refine SeqR.d1 rfl rfl rfl (yl_pick_f rfl rfl rfl rfl ?_)
      refine SeqR.d1 rfl rfl rfl (yl_assign rfl rfl ?_)
      refine SeqR.done ?_
      refine tn ?_
      refine CW.ret ?_
      refine br ?_
      refine tr ?_
      refine rr rfl (.cons rfl .nil) ?_
      have hM56 : (s_l30Good p_0 p_1) = (false) := by simp only [s_l30Good, hb27, hb40, cond_true, cond_false, loopE_done, loopE_ret]
      rw [hM56]
      have q57 := Ex.trans (Ex.refl w) hE20
      have q58 := Ex.trans q57 hE26
      have q59 := Ex.trans q58 hE39
      exact ⟨rfl, q59⟩
  · have hb27p := dec_f hb27
    refine CW.cond_f rfl hb27 ?_
    refine CW.seq ?_
    refine CW.region ?_
    refine SeqR.d1 rfl rfl rfl (yl_eql rfl rfl rfl ?_)
    refine SeqR.d1 rfl rfl rfl (yl_assign rfl rfl ?_)
    refine SeqR.done ?_
    refine tn ?_
    refine bcase (decide (p_1.Kind = 2)) (fun hb60 => ?_) (fun hb60 => ?_)
    · have hb60p := dec_t hb60
      refine CW.cond_t rfl hb60 ?_
      refine CW.seq ?_
      refine CW.region ?_
      refine SeqR.d1 rfl rfl rfl (yl_fieldAddr Try.fd49_1 rfl rfl ?_)
      refine SeqR.d1 rfl rfl rfl (yl_loadN (cs := [.int .i64 (p_1.Act.Kind), .slice A4 p_1.Act.Old.Vals.length c4, .slice A5 p_1.Act.New.Vals.length c5]) Try.ty39 rfl rfl (hB25.cells (n := 3) rfl) rfl ?_)
      have q61 := RdS.ex good_Str h4 hE20
      have q62 := RdS.ex good_Str q61 hE26
      have q63 := RdS.ex good_Str h5 hE20
      have q64 := RdS.ex good_Str q63 hE26
      refine SeqR.d1 rfl rfl rfl (yl_call Try.en146 rfl (opvs_cons rfl opvs_nil) (Cal.mono (c_s_l27Empty p_1.Act (RdS.up q62 good_Str) (RdS.up q64 good_Str) o6.1) ?_))
      rintro v66 w65 ⟨rfl, hE67⟩
      have hE67z := Ex.size hE67
      refine SeqR.d1 rfl rfl rfl (yl_move rfl rfl ?_)
      refine bcase (s_l27Empty p_1.Act) (fun hb68 => ?_) (fun hb68 => ?_)
      · skip
        refine SeqR.y rfl rfl rfl rfl rfl hb68 (yl_fieldAddr Try.fd49_2 rfl rfl ?_)
        have q69 := Box.ex hB25 hE67
        refine SeqR.y rfl rfl rfl rfl rfl hb68 (yl_load1 Try.ty9 rfl rfl ((q69.cell 4).trans rfl) ?_)
        refine SeqR.y rfl rfl rfl rfl rfl hb68 (yl_seql (a := p_1.Idx) (b := ([] : Str)) rfl rfl rfl ?_)
        refine SeqR.d1 rfl rfl rfl (yl_pick_t rfl rfl hb68 rfl ?_)
        refine SeqR.d1 rfl rfl rfl (yl_move rfl rfl ?_)
        refine bcase (p_1.Idx == ([] : Str)) (fun hb70 => ?_) (fun hb70 => ?_)
        · skip
          refine SeqR.y rfl rfl rfl rfl rfl hb70 (yl_fieldAddr Try.fd49_3 rfl rfl ?_)
          refine SeqR.y rfl rfl rfl rfl rfl hb70 (yl_load1 Try.ty9 rfl rfl ((q69.cell 5).trans rfl) ?_)
          refine SeqR.y rfl rfl rfl rfl rfl hb70 (yl_call Try.en147 rfl (opvs_cons rfl opvs_nil) (Cal.mono (c_s_l25Field p_1.Low o6.2.2.1) ?_))
          rintro v72 w71 ⟨rfl, hE73⟩
          have hE73z := Ex.size hE73
          refine SeqR.d1 rfl rfl rfl (yl_pick_t rfl rfl hb70 rfl ?_)
          refine SeqR.d1 rfl rfl rfl (yl_move rfl rfl ?_)
          refine bcase (s_l25Field p_1.Low) (fun hb74 => ?_) (fun hb74 => ?_)
          · skip
            refine SeqR.y rfl rfl rfl rfl rfl hb74 (yl_fieldAddr Try.fd49_4 rfl rfl ?_)
            have q75 := Box.ex q69 hE73
            refine SeqR.y rfl rfl rfl rfl rfl hb74 (yl_load1 Try.ty9 rfl rfl ((q75.cell 6).trans rfl) ?_)
            refine SeqR.y rfl rfl rfl rfl rfl hb74 (yl_seql (a := p_1.High) (b := ([] : Str)) rfl rfl rfl ?_)
            refine SeqR.d1 rfl rfl rfl (yl_pick_t rfl rfl hb74 rfl ?_)
            refine SeqR.d1 rfl rfl rfl (yl_assign rfl rfl ?_)
            refine SeqR.done ?_
            refine tn ?_
            refine CW.ret ?_
            refine br ?_
            refine tr ?_
            refine rr rfl (.cons rfl .nil) ?_
            have hM76 : (s_l30Good p_0 p_1) = (p_1.High == ([] : Str)) := by simp only [s_l30Good, hb27, hb60, hb68, hb70, hb74, cond_true, cond_false, loopE_done, loopE_ret]
            rw [hM76]
            have q77 := Ex.trans (Ex.refl w) hE20
            have q78 := Ex.trans q77 hE26
            have q79 := Ex.trans q78 hE67
            have q80 := Ex.trans q79 hE73
            exact ⟨rfl, q80⟩
          · skip
            refine SeqR.z rfl rfl rfl rfl rfl hb74 ?_
            refine SeqR.z rfl rfl rfl rfl rfl hb74 ?_
            refine SeqR.z rfl rfl rfl rfl rfl hb74 ?_
            refine SeqR.d1 rfl rfl rfl (yl_pick_f rfl rfl hb74 rfl ?_)
            refine SeqR.d1 rfl rfl rfl (yl_assign rfl rfl ?_)
            refine SeqR.done ?_
            refine tn ?_
            refine CW.ret ?_
            refine br ?_
            refine tr ?_
            refine rr rfl (.cons rfl .nil) ?_
            have hM81 : (s_l30Good p_0 p_1) = (false) := by simp only [s_l30Good, hb27, hb60, hb68, hb70, hb74, cond_true, cond_false, loopE_done, loopE_ret]
            rw [hM81]
            have q82 := Ex.trans (Ex.refl w) hE20
            have q83 := Ex.trans q82 hE26
            have q84 := Ex.trans q83 hE67
            have q85 := Ex.trans q84 hE73
            exact ⟨rfl, q85⟩
        · skip
          refine SeqR.z rfl rfl rfl rfl rfl hb70 ?_
          refine SeqR.z rfl rfl rfl rfl rfl hb70 ?_
          refine SeqR.z rfl rfl rfl rfl rfl hb70 ?_
          refine SeqR.d1 rfl rfl rfl (yl_pick_f rfl rfl hb70 rfl ?_)
          refine SeqR.d1 rfl rfl rfl (yl_move rfl rfl ?_)
          refine SeqR.z rfl rfl rfl rfl rfl rfl ?_
          refine SeqR.z rfl rfl rfl rfl rfl rfl ?_
          refine SeqR.z rfl rfl rfl rfl rfl rfl ?_
          refine SeqR.d1 rfl rfl rfl (yl_pick_f rfl rfl rfl rfl ?_)
          refine SeqR.d1 rfl rfl rfl (yl_assign rfl rfl ?_)
          refine SeqR.done ?_
          refine tn ?_
          refine CW.ret ?_
          refine br ?_
          refine tr ?_
          refine rr rfl (.cons rfl .nil) ?_
          have hM86 : (s_l30Good p_0 p_1) = (false) := by simp only [s_l30Good, hb27, hb60, hb68, hb70, cond_true, cond_false, loopE_done, loopE_ret]
          rw [hM86]
          have q87 := Ex.trans (Ex.refl w) hE20
          have q88 := Ex.trans q87 hE26
          have q89 := Ex.trans q88 hE67
          exact ⟨rfl, q89⟩
      · skip
        refine SeqR.z rfl rfl rfl rfl rfl hb68 ?_
        refine SeqR.z rfl rfl rfl rfl rfl hb68 ?_
        refine SeqR.z rfl rfl rfl rfl rfl hb68 ?_
        refine SeqR.d1 rfl rfl rfl (yl_pick_f rfl rfl hb68 rfl ?_)
        refine SeqR.d1 rfl rfl rfl (yl_move rfl rfl ?_)
        refine SeqR.z rfl rfl rfl rfl rfl rfl ?_
        refine SeqR.z rfl rfl rfl rfl rfl rfl ?_
        refine SeqR.z rfl rfl rfl rfl rfl rfl ?_
        refine SeqR.d1 rfl rfl rfl (yl_pick_f rfl rfl rfl rfl ?_)
        refine SeqR.d1 rfl rfl rfl (yl_move rfl rfl ?_)
        refine SeqR.z rfl rfl rfl rfl rfl rfl ?_
        refine SeqR.z rfl rfl rfl rfl rfl rfl ?_
        refine SeqR.z rfl rfl rfl rfl rfl rfl ?_
        refine SeqR.d1 rfl rfl rfl (yl_pick_f rfl rfl rfl rfl ?_)
        refine SeqR.d1 rfl rfl rfl (yl_assign rfl rfl ?_)
        refine SeqR.done ?_
        refine tn ?_
        refine CW.ret ?_
        refine br ?_
        refine tr ?_
        refine rr rfl (.cons rfl .nil) ?_
        have hM90 : (s_l30Good p_0 p_1) = (false) := by simp only [s_l30Good, hb27, hb60, hb68, cond_true, cond_false, loopE_done, loopE_ret]
        rw [hM90]
        have q91 := Ex.trans (Ex.refl w) hE20
        have q92 := Ex.trans q91 hE26
        have q93 := Ex.trans q92 hE67
        exact ⟨rfl, q93⟩
    · have hb60p := dec_f hb60
      refine CW.cond_f rfl hb60 ?_
      refine CW.seq ?_
      refine CW.region ?_
      refine SeqR.d1 rfl rfl rfl (yl_eql rfl rfl rfl ?_)
      refine SeqR.d1 rfl rfl rfl (yl_assign rfl rfl ?_)
      refine SeqR.done ?_
      refine tn ?_
      refine bcase (decide (p_1.Kind = 3)) (fun hb94 => ?_) (fun hb94 => ?_)
      · have hb94p := dec_t hb94
        refine CW.cond_t rfl hb94 ?_
        refine CW.seq ?_
        refine CW.region ?_
        refine SeqR.d1 rfl rfl rfl (yl_fieldAddr Try.fd49_1 rfl rfl ?_)
        refine SeqR.d1 rfl rfl rfl (yl_loadN (cs := [.int .i64 (p_1.Act.Kind), .slice A4 p_1.Act.Old.Vals.length c4, .slice A5 p_1.Act.New.Vals.length c5]) Try.ty39 rfl rfl (hB25.cells (n := 3) rfl) rfl ?_)
        have q95 := RdS.ex good_Str h4 hE20
        have q96 := RdS.ex good_Str q95 hE26
        have q97 := RdS.ex good_Str h5 hE20
        have q98 := RdS.ex good_Str q97 hE26
        refine SeqR.d1 rfl rfl rfl (yl_call Try.en146 rfl (opvs_cons rfl opvs_nil) (Cal.mono (c_s_l27Empty p_1.Act (RdS.up q96 good_Str) (RdS.up q98 good_Str) o6.1) ?_))
        rintro v100 w99 ⟨rfl, hE101⟩
        have hE101z := Ex.size hE101
        refine SeqR.d1 rfl rfl rfl (yl_move rfl rfl ?_)
        refine bcase (s_l27Empty p_1.Act) (fun hb102 => ?_) (fun hb102 => ?_)
        · skip
          have q103 := Box.ex hB19 hE26
          have q104 := Box.ex q103 hE101
          refine SeqR.y rfl rfl rfl rfl rfl hb102 (yl_loadN (cs := [.string (bs (p_0.Name)), .slice A1 p_0.Cols.length c1, .slice A2 p_0.Idxs.length c2]) Try.ty35 rfl rfl (q104.cells (n := 3) rfl) rfl ?_)
          refine SeqR.y rfl rfl rfl rfl rfl hb102 (yl_fieldAddr Try.fd49_2 rfl rfl ?_)
          have q105 := Box.ex hB25 hE101
          refine SeqR.y rfl rfl rfl rfl rfl hb102 (yl_load1 Try.ty9 rfl rfl ((q105.cell 4).trans rfl) ?_)
          have q106 := RdS.ex good_Str h1 hE20
          have q107 := RdS.ex good_Str q106 hE26
          have q108 := RdS.ex good_Str q107 hE101
          have q109 := RdS.ex good_Idx h2 hE20
          have q110 := RdS.ex good_Idx q109 hE26
          have q111 := RdS.ex good_Idx q110 hE101
          refine SeqR.y rfl rfl rfl rfl rfl hb102 (yl_call Try.en148 rfl (opvs_cons rfl (opvs_cons rfl opvs_nil)) (Cal.mono (c_s_l24Idx p_0 p_1.Idx (RdS.up q108 good_Str) (RdS.up q111 good_Idx) o3 o6.2.1) ?_))
          rintro v113 w112 ⟨rfl, hE114⟩
          have hE114z := Ex.size hE114
          refine SeqR.y rfl rfl rfl rfl rfl hb102 (yl_geq rfl rfl rfl ?_)
          refine SeqR.d1 rfl rfl rfl (yl_pick_t rfl rfl hb102 rfl ?_)
          refine SeqR.d1 rfl rfl rfl (yl_move rfl rfl ?_)
          refine bcase (decide (0 ≤ (s_l24Idx p_0 p_1.Idx))) (fun hb115 => ?_) (fun hb115 => ?_)
          · have hb115p := dec_t hb115
            refine SeqR.y rfl rfl rfl rfl rfl hb115 (yl_fieldAddr Try.fd49_3 rfl rfl ?_)
            have q116 := Box.ex q105 hE114
            refine SeqR.y rfl rfl rfl rfl rfl hb115 (yl_load1 Try.ty9 rfl rfl ((q116.cell 5).trans rfl) ?_)
            refine SeqR.y rfl rfl rfl rfl rfl hb115 (yl_call Try.en147 rfl (opvs_cons rfl opvs_nil) (Cal.mono (c_s_l25Field p_1.Low o6.2.2.1) ?_))
            rintro v118 w117 ⟨rfl, hE119⟩
            have hE119z := Ex.size hE119
            refine SeqR.d1 rfl rfl rfl (yl_pick_t rfl rfl hb115 rfl ?_)
            refine SeqR.d1 rfl rfl rfl (yl_move rfl rfl ?_)
            refine bcase (s_l25Field p_1.Low) (fun hb120 => ?_) (fun hb120 => ?_)
            · skip
              refine SeqR.y rfl rfl rfl rfl rfl hb120 (yl_fieldAddr Try.fd49_4 rfl rfl ?_)
              have q121 := Box.ex q116 hE119
              refine SeqR.y rfl rfl rfl rfl rfl hb120 (yl_load1 Try.ty9 rfl rfl ((q121.cell 6).trans rfl) ?_)
              refine SeqR.y rfl rfl rfl rfl rfl hb120 (yl_call Try.en147 rfl (opvs_cons rfl opvs_nil) (Cal.mono (c_s_l25Field p_1.High o6.2.2.2) ?_))
              rintro v123 w122 ⟨rfl, hE124⟩
              have hE124z := Ex.size hE124
              refine SeqR.d1 rfl rfl rfl (yl_pick_t rfl rfl hb120 rfl ?_)
              refine SeqR.d1 rfl rfl rfl (yl_assign rfl rfl ?_)
              refine SeqR.done ?_
              refine tn ?_
              refine CW.ret ?_
              refine br ?_
              refine tr ?_
              refine rr rfl (.cons rfl .nil) ?_
              have hM125 : (s_l30Good p_0 p_1) = ((s_l25Field p_1.High)) := by simp only [s_l30Good, hb27, hb60, hb94, hb102, hb115, hb120, cond_true, cond_false, loopE_done, loopE_ret]
              rw [hM125]
              have q126 := Ex.trans (Ex.refl w) hE20
              have q127 := Ex.trans q126 hE26
              have q128 := Ex.trans q127 hE101
              have q129 := Ex.trans q128 hE114
              have q130 := Ex.trans q129 hE119
              have q131 := Ex.trans q130 hE124
              exact ⟨rfl, q131⟩
            · skip
              refine SeqR.z rfl rfl rfl rfl rfl hb120 ?_
              refine SeqR.z rfl rfl rfl rfl rfl hb120 ?_
              refine SeqR.z rfl rfl rfl rfl rfl hb120 ?_
              refine SeqR.d1 rfl rfl rfl (yl_pick_f rfl rfl hb120 rfl ?_)
              refine SeqR.d1 rfl rfl rfl (yl_assign rfl rfl ?_)
              refine SeqR.done ?_
              refine tn ?_
              refine CW.ret ?_
              refine br ?_
              refine tr ?_
              refine rr rfl (.cons rfl .nil) ?_
              have hM132 : (s_l30Good p_0 p_1) = (false) := by simp only [s_l30Good, hb27, hb60, hb94, hb102, hb115, hb120, cond_true, cond_false, loopE_done, loopE_ret]
              rw [hM132]
              have q133 := Ex.trans (Ex.refl w) hE20
              have q134 := Ex.trans q133 hE26
              have q135 := Ex.trans q134 hE101
              have q136 := Ex.trans q135 hE114
              have q137 := Ex.trans q136 hE119
              exact ⟨rfl, q137⟩
          · have hb115p := dec_f hb115
            refine SeqR.z rfl rfl rfl rfl rfl hb115 ?_
            refine SeqR.z rfl rfl rfl rfl rfl hb115 ?_
            refine SeqR.z rfl rfl rfl rfl rfl hb115 ?_
            refine SeqR.d1 rfl rfl rfl (yl_pick_f rfl rfl hb115 rfl ?_)
            refine SeqR.d1 rfl rfl rfl (yl_move rfl rfl ?_)
            refine SeqR.z rfl rfl rfl rfl rfl rfl ?_
            refine SeqR.z rfl rfl rfl rfl rfl rfl ?_
            refine SeqR.z rfl rfl rfl rfl rfl rfl ?_
            refine SeqR.d1 rfl rfl rfl (yl_pick_f rfl rfl rfl rfl ?_)
            refine SeqR.d1 rfl rfl rfl (yl_assign rfl rfl ?_)
            refine SeqR.done ?_
            refine tn ?_
            refine CW.ret ?_
            refine br ?_
            refine tr ?_
            refine rr rfl (.cons rfl .nil) ?_
            have hM138 : (s_l30Good p_0 p_1) = (false) := by simp only [s_l30Good, hb27, hb60, hb94, hb102, hb115, cond_true, cond_false, loopE_done, loopE_ret]
            rw [hM138]
            have q139 := Ex.trans (Ex.refl w) hE20
            have q140 := Ex.trans q139 hE26
            have q141 := Ex.trans q140 hE101
            have q142 := Ex.trans q141 hE114
            exact ⟨rfl, q142⟩
        · skip
          refine SeqR.z rfl rfl rfl rfl rfl hb102 ?_
          refine SeqR.z rfl rfl rfl rfl rfl hb102 ?_
          refine SeqR.z rfl rfl rfl rfl rfl hb102 ?_
          refine SeqR.z rfl rfl rfl rfl rfl hb102 ?_
          refine SeqR.z rfl rfl rfl rfl rfl hb102 ?_
          refine SeqR.d1 rfl rfl rfl (yl_pick_f rfl rfl hb102 rfl ?_)
          refine SeqR.d1 rfl rfl rfl (yl_move rfl rfl ?_)
          refine SeqR.z rfl rfl rfl rfl rfl rfl ?_
          refine SeqR.z rfl rfl rfl rfl rfl rfl ?_
          refine SeqR.z rfl rfl rfl rfl rfl rfl ?_
          refine SeqR.d1 rfl rfl rfl (yl_pick_f rfl rfl rfl rfl ?_)
          refine SeqR.d1 rfl rfl rfl (yl_move rfl rfl ?_)
          refine SeqR.z rfl rfl rfl rfl rfl rfl ?_
          refine SeqR.z rfl rfl rfl rfl rfl rfl ?_
          refine SeqR.z rfl rfl rfl rfl rfl rfl ?_
          refine SeqR.d1 rfl rfl rfl (yl_pick_f rfl rfl rfl rfl ?_)
          refine SeqR.d1 rfl rfl rfl (yl_assign rfl rfl ?_)
          refine SeqR.done ?_
          refine tn ?_
          refine CW.ret ?_
          refine br ?_
          refine tr ?_
          refine rr rfl (.cons rfl .nil) ?_
          have hM143 : (s_l30Good p_0 p_1) = (false) := by simp only [s_l30Good, hb27, hb60, hb94, hb102, cond_true, cond_false, loopE_done, loopE_ret]
          rw [hM143]
          have q144 := Ex.trans (Ex.refl w) hE20
          have q145 := Ex.trans q144 hE26
          have q146 := Ex.trans q145 hE101
          exact ⟨rfl, q146⟩
      · have hb94p := dec_f hb94
        refine CW.cond_f rfl hb94 ?_
        refine CW.skip ?_
        refine bn ?_
        refine tn ?_
        refine CW.seq ?_
        refine CW.region ?_
        refine SeqR.d1 rfl rfl rfl (yl_assign rfl rfl ?_)
        refine SeqR.done ?_
        refine tn ?_
        refine CW.ret ?_
        refine rr rfl (.cons rfl .nil) ?_
        have hM147 : (s_l30Good p_0 p_1) = (false) := by simp only [s_l30Good, hb27, hb60, hb94, cond_true, cond_false, loopE_done, loopE_ret]
        rw [hM147]
        have q148 := Ex.trans (Ex.refl w) hE20
        have q149 := Ex.trans q148 hE26
        exact ⟨rfl, q149⟩
set_option maxRecDepth 100000 in
set_option maxHeartbeats 2000000 in
theorem c_s_GoodStmt {A1 : Option Addr} {c1 : Nat} {A2 : Option Addr} {c2 : Nat} {A4 : Option Addr} {c4 : Nat} {A5 : Option Addr} {c5 : Nat} {w : World} (p_t : DTable) (p_s : DStmt) (h1 : RdS w (Iv 0 w.heap.size) (RF e_Str) 1 A1 p_t.Cols.length c1 p_t.Cols) (h2 : RdS w (Iv 0 w.heap.size) (RF e_Idx) 3 A2 p_t.Idxs.length c2 p_t.Idxs) (h4 : RdS w (Iv 0 w.heap.size) (RF e_Str) 1 A4 p_s.Act.Old.Vals.length c4 p_s.Act.Old.Vals) (h5 : RdS w (Iv 0 w.heap.size) (RF e_Str) 1 A5 p_s.Act.New.Vals.length c5 p_s.Act.New.Vals) (o3 : ok_Table p_t) (o6 : ok_Stmt p_s) : Cal Try.prog 23 #[.agg #[.string (bs (p_t.Name)), .slice A1 p_t.Cols.length c1, .slice A2 p_t.Idxs.length c2], .agg #[.int .i64 (p_s.Kind), .int .i64 (p_s.Act.Kind), .slice A4 p_s.Act.Old.Vals.length c4, .slice A5 p_s.Act.New.Vals.length c5, .string (bs (p_s.Idx)), .string (bs (p_s.Low)), .string (bs (p_s.High))]] w fun v w' => v = .bool ((s_GoodStmt p_t p_s)) ∧ Ex w w' := by
  have hol7 : p_t.Name.length ≤ 1073741824 := o3.1
  have hol8 := o3.2.1.1
  have hol9 := o3.2.2.1
  have hol10 := o6.1.1.1
  have hol11 := o6.1.2.1
  have hol12 : p_s.Idx.length ≤ 1073741824 := o6.2.1
  have hol13 : p_s.Low.length ≤ 1073741824 := o6.2.2.1
  have hol14 : p_s.High.length ≤ 1073741824 := o6.2.2.2
  refine Cal.of (vs := [.agg #[.string (bs (p_t.Name)), .slice A1 p_t.Cols.length c1, .slice A2 p_t.Idxs.length c2], .agg #[.int .i64 (p_s.Kind), .int .i64 (p_s.Act.Kind), .slice A4 p_s.Act.Old.Vals.length c4, .slice A5 p_s.Act.New.Vals.length c5, .string (bs (p_s.Idx)), .string (bs (p_s.Low)), .string (bs (p_s.High))]]) Try.func23 rfl Try.ntmps23 rfl ?_
  refine CW.seq ?_
  refine CW.region ?_
  refine SeqR.d1 rfl rfl rfl (yl_box (cs := [.string (bs (p_t.Name)), .slice A1 p_t.Cols.length c1, .slice A2 p_t.Idxs.length c2]) rfl rfl rfl ?_)
  intro b15 w16 hs17 hz18 hB19 hE20
  refine SeqR.d1 rfl rfl rfl (yl_box (cs := [.int .i64 (p_s.Kind), .int .i64 (p_s.Act.Kind), .slice A4 p_s.Act.Old.Vals.length c4, .slice A5 p_s.Act.New.Vals.length c5, .string (bs (p_s.Idx)), .string (bs (p_s.Low)), .string (bs (p_s.High))]) rfl rfl rfl ?_)
  intro b21 w22 hs23 hz24 hB25 hE26
  refine SeqR.d1 rfl rfl rfl (yl_assign rfl rfl ?_)
  refine SeqR.done ?_
  refine tn ?_
  refine CW.seq ?_
  refine CW.region ?_
  have q27 := Box.ex hB19 hE26
  refine SeqR.d1 rfl rfl rfl (yl_loadN (cs := [.string (bs (p_t.Name)), .slice A1 p_t.Cols.length c1, .slice A2 p_t.Idxs.length c2]) Try.ty35 rfl rfl (q27.cells (n := 3) rfl) rfl ?_)
  have q28 := RdS.ex good_Str h1 hE20
  have q29 := RdS.ex good_Str q28 hE26
  have q30 := RdS.ex good_Idx h2 hE20
  have q31 := RdS.ex good_Idx q30 hE26
  refine SeqR.d1 rfl rfl rfl (yl_call Try.en68 rfl (opvs_cons rfl opvs_nil) (Cal.mono (c_s_GoodTable p_t (RdS.up q29 good_Str) (RdS.up q31 good_Idx) o3) ?_))
  rintro v33 w32 ⟨rfl, hE34⟩
  have hE34z := Ex.size hE34
  refine SeqR.d1 rfl rfl rfl (yl_move rfl rfl ?_)
  refine bcase (s_GoodTable p_t) (fun hb35 => ?_) (fun hb35 => ?_)
  · have hb35p := f_s_GoodTable hb35
    have q36 := Box.ex q27 hE34
    refine SeqR.y rfl rfl rfl rfl rfl hb35 (yl_loadN (cs := [.string (bs (p_t.Name)), .slice A1 p_t.Cols.length c1, .slice A2 p_t.Idxs.length c2]) Try.ty35 rfl rfl (q36.cells (n := 3) rfl) rfl ?_)
    have q37 := Box.ex hB25 hE34
    refine SeqR.y rfl rfl rfl rfl rfl hb35 (yl_loadN (cs := [.int .i64 (p_s.Kind), .int .i64 (p_s.Act.Kind), .slice A4 p_s.Act.Old.Vals.length c4, .slice A5 p_s.Act.New.Vals.length c5, .string (bs (p_s.Idx)), .string (bs (p_s.Low)), .string (bs (p_s.High))]) Try.ty49 rfl rfl (q37.cells (n := 7) rfl) rfl ?_)
    have q38 := RdS.ex good_Str q29 hE34
    have q39 := RdS.ex good_Idx q31 hE34
    have q40 := RdS.ex good_Str h4 hE20
    have q41 := RdS.ex good_Str q40 hE26
    have q42 := RdS.ex good_Str q41 hE34
    have q43 := RdS.ex good_Str h5 hE20
    have q44 := RdS.ex good_Str q43 hE26
    have q45 := RdS.ex good_Str q44 hE34
    refine SeqR.y rfl rfl rfl rfl rfl hb35 (yl_call Try.en76 rfl (opvs_cons rfl (opvs_cons rfl opvs_nil)) (Cal.mono (c_s_l30Good p_t p_s (RdS.up q38 good_Str) (RdS.up q39 good_Idx) (RdS.up q42 good_Str) (RdS.up q45 good_Str) o3 o6 (by first | omega | assumption | (simp only [IntKind.wrap_i64] at *; omega))) ?_))
    rintro v47 w46 ⟨rfl, hE48⟩
    have hE48z := Ex.size hE48
    refine SeqR.d1 rfl rfl rfl (yl_pick_t rfl rfl hb35 rfl ?_)
    refine SeqR.d1 rfl rfl rfl (yl_assign rfl rfl ?_)
    refine SeqR.done ?_
    refine tn ?_
    refine CW.ret ?_
    refine rr rfl (.cons rfl .nil) ?_
    have hM49 : (s_GoodStmt p_t p_s) = ((s_l30Good p_t p_s)) := by simp only [s_GoodStmt, hb35, cond_true, cond_false, loopE_done, loopE_ret]
    rw [hM49]
    have q50 := Ex.trans (Ex.refl w) hE20
    have q51 := Ex.trans q50 hE26
    have q52 := Ex.trans q51 hE34
    have q53 := Ex.trans q52 hE48
    exact ⟨rfl, q53⟩
  · skip
    refine SeqR.z rfl rfl rfl rfl rfl hb35 ?_
    refine SeqR.z rfl rfl rfl rfl rfl hb35 ?_
    refine SeqR.z rfl rfl rfl rfl rfl hb35 ?_
    refine SeqR.d1 rfl rfl rfl (yl_pick_f rfl rfl hb35 rfl ?_)
    refine SeqR.d1 rfl rfl rfl (yl_assign rfl rfl ?_)
    refine SeqR.done ?_
    refine tn ?_
    refine CW.ret ?_
    refine rr rfl (.cons rfl .nil) ?_
    have hM54 : (s_GoodStmt p_t p_s) = (false) := by simp only [s_GoodStmt, hb35, cond_true, cond_false, loopE_done, loopE_ret]
    rw [hM54]
    have q55 := Ex.trans (Ex.refl w) hE20
    have q56 := Ex.trans q55 hE26
    have q57 := Ex.trans q56 hE34
    exact ⟨rfl, q57⟩
set_option maxRecDepth 100000 in
set_option maxHeartbeats 2000000 in
theorem c_l_toRow {A1 : Option Addr} {c1 : Nat} {w : World} (p_a : DRow) (h1 : RdS w (Iv 0 w.heap.size) (RF e_Str) 1 A1 p_a.Vals.length c1 p_a.Vals) (o2 : ok_Row p_a) : Cal Try.prog 34 #[.agg #[.slice A1 p_a.Vals.length c1]] w fun v w' => ∃ A_1 c_1 lo_1 hi_1, v = .agg #[.slice A_1 p_a.Vals.length c_1] ∧ OwnL w' lo_1 hi_1 9 1 (RF e_Str) A_1 p_a.Vals.length c_1 p_a.Vals ∧ (w.heap.size ≤ lo_1 ∧ lo_1 ≤ hi_1 ∧ hi_1 ≤ w'.heap.size) ∧ Ex w w' := by
  have hol3 := o2.1
  refine Cal.of (vs := [.agg #[.slice A1 p_a.Vals.length c1]]) Try.func34 rfl Try.ntmps34 rfl ?_
  refine CW.seq ?_
  refine CW.region ?_
  refine SeqR.d1 rfl rfl rfl (yl_box (cs := [.slice A1 p_a.Vals.length c1]) rfl rfl rfl ?_)
  intro b4 w5 hs6 hz7 hB8 hE9
  refine SeqR.d1 rfl rfl rfl (yl_alloc Try.ty37 (cs := [.slice none 0 0]) rfl rfl ?_)
  intro b10 w11 hs12 hz13 hB14 hE15
  refine SeqR.done ?_
  refine tn ?_
  refine CW.seq ?_
  refine CW.region ?_
  refine SeqR.d1 rfl rfl rfl (yl_alloc Try.ty37 (cs := [.slice none 0 0]) rfl rfl ?_)
  intro b16 w17 hs18 hz19 hB20 hE21
  refine SeqR.done ?_
  refine tn ?_
  refine CW.seq ?_
  refine CW.region ?_
  refine SeqR.d1 rfl rfl rfl (yl_fieldAddr Try.fd27_0 rfl rfl ?_)
  have q22 := Box.ex hB8 hE15
  have q23 := Box.ex q22 hE21
  refine SeqR.d1 rfl rfl rfl (yl_load1 Try.ty22 rfl rfl ((q23.cell 0).trans rfl) ?_)
  have q24 := RdS.ex good_Str h1 hE9
  have q25 := RdS.ex good_Str q24 hE15
  have q26 := RdS.ex good_Str q25 hE21
  refine SeqR.d1 rfl rfl rfl (yl_call Try.en70 rfl (opvs_cons rfl opvs_nil) (Cal.mono (c_l_toStringS p_a.Vals (RdS.up q26 good_Str) o2) ?_))
  rintro v29 w27 ⟨A28, c28, lo28, hi28, rfl, h28, hrn31, hE30⟩
  have hE30z := Ex.size hE30
  refine SeqR.d1 rfl rfl rfl (yl_fieldAddr Try.fd37_0 rfl rfl ?_)
  have q32 := Box.ex hB20 hE30
  refine SeqR.u rfl rfl (yl_store (vs := [.slice A28 p_a.Vals.length c28]) Try.ty22 rfl rfl rfl rfl rfl rfl q32 (Nat.le_of_ble_eq_true rfl) ?_)
  intro w33 hB34 hO35
  have hB34 : Box w33 b16 37 [.slice A28 p_a.Vals.length c28] := hB34
  have hO35z := hO35.size
  refine SeqR.done ?_
  refine tn ?_
  refine CW.seq ?_
  refine CW.region ?_
  refine SeqR.d1 rfl rfl rfl (yl_loadN (cs := [.slice A28 p_a.Vals.length c28]) Try.ty37 rfl rfl (hB34.cells (n := 1) rfl) rfl ?_)
  have q36 := Box.ex hB14 hE21
  have q37 := Box.ex q36 hE30
  have q38 := Box.only q37 hO35 (by omega)
  refine SeqR.u rfl rfl (yl_store (vs := [.slice A28 p_a.Vals.length c28]) Try.ty37 rfl rfl rfl rfl rfl rfl q38 (Nat.le_of_ble_eq_true rfl) ?_)
  intro w39 hB40 hO41
  have hB40 : Box w39 b10 37 [.slice A28 p_a.Vals.length c28] := hB40
  have hO41z := hO41.size
  refine SeqR.done ?_
  refine tn ?_
  refine CW.ret ?_
  refine rr rfl (.cons ⟨_, rfl, run_loadN Try.ty37 (cs := [.slice A28 p_a.Vals.length c28]) rfl (hB40.cells (n := 1) rfl)⟩ .nil) ?_
  have hM42 : p_a = (p_a) := (to_Row _).symm.trans <| by simp only [l_toRow, cond_true, cond_false, loopE_done, loopE_ret]
  have q43 := OwnL.only good_Str h28 hO35 (by omega)
  have q44 := OwnL.only good_Str q43 hO41 (by omega)
  have hrg45 := OwnL.rng q44
  rw [hM42]
  have q46 := Ex.trans (Ex.refl w) hE9
  have q47 := Ex.trans q46 hE15
  have q48 := Ex.trans q47 hE21
  have q49 := Ex.trans q48 hE30
  have q50 := Below.only q49 hO35 (by omega)
  have q51 := Below.only q50 hO41 (by omega)
  exact ⟨A28, c28, lo28, hi28, rfl, q44, (by omega), q51⟩
set_option maxRecDepth 100000 in
set_option maxHeartbeats 2000000 in
theorem c_l_toRowAct {A1 : Option Addr} {c1 : Nat} {A2 : Option Addr} {c2 : Nat} {w : World} (p_a : DRowAct) (h1 : RdS w (Iv 0 w.heap.size) (RF e_Str) 1 A1 p_a.Old.Vals.length c1 p_a.Old.Vals) (h2 : RdS w (Iv 0 w.heap.size) (RF e_Str) 1 A2 p_a.New.Vals.length c2 p_a.New.Vals) (o3 : ok_RowAct p_a) : Cal Try.prog 18 #[.agg #[.int .i64 (p_a.Kind), .slice A1 p_a.Old.Vals.length c1, .slice A2 p_a.New.Vals.length c2]] w fun v w' => ∃ A_1 c_1 lo_1 hi_1 A_2 c_2 lo_2 hi_2, v = .agg #[.int .i64 (p_a.Kind), .slice A_1 p_a.Old.Vals.length c_1, .slice A_2 p_a.New.Vals.length c_2] ∧ OwnL w' lo_1 hi_1 9 1 (RF e_Str) A_1 p_a.Old.Vals.length c_1 p_a.Old.Vals ∧ OwnL w' lo_2 hi_2 9 1 (RF e_Str) A_2 p_a.New.Vals.length c_2 p_a.New.Vals ∧ (w.heap.size ≤ lo_1 ∧ lo_1 ≤ hi_1 ∧ hi_1 ≤ w'.heap.size) ∧ (w.heap.size ≤ lo_2 ∧ lo_2 ≤ hi_2 ∧ hi_2 ≤ w'.heap.size) ∧ (hi_1 ≤ lo_2 ∨ hi_2 ≤ lo_1) ∧ Ex w w' := by
  have hol4 := o3.1.1
  have hol5 := o3.2.1
  refine Cal.of (vs := [.agg #[.int .i64 (p_a.Kind), .slice A1 p_a.Old.Vals.length c1, .slice A2 p_a.New.Vals.length c2]]) Try.func18 rfl Try.ntmps18 rfl ?_
  refine CW.seq ?_
  refine CW.region ?_
  refine SeqR.d1 rfl rfl rfl (yl_box (cs := [.int .i64 (p_a.Kind), .slice A1 p_a.Old.Vals.length c1, .slice A2 p_a.New.Vals.length c2]) rfl rfl rfl ?_)
  intro b6 w7 hs8 hz9 hB10 hE11
  refine SeqR.d1 rfl rfl rfl (yl_alloc Try.ty39 (cs := [.int .i64 (0), .slice none 0 0, .slice none 0 0]) rfl rfl ?_)
  intro b12 w13 hs14 hz15 hB16 hE17
  refine SeqR.done ?_
  refine tn ?_
  refine CW.seq ?_
  refine CW.region ?_
  refine SeqR.d1 rfl rfl rfl (yl_alloc Try.ty39 (cs := [.int .i64 (0), .slice none 0 0, .slice none 0 0]) rfl rfl ?_)
  intro b18 w19 hs20 hz21 hB22 hE23
  refine SeqR.done ?_
  refine tn ?_
  refine CW.seq ?_
  refine CW.region ?_
  refine SeqR.d1 rfl rfl rfl (yl_fieldAddr Try.fd29_0 rfl rfl ?_)
  have q24 := Box.ex hB10 hE17
  have q25 := Box.ex q24 hE23
  refine SeqR.d1 rfl rfl rfl (yl_load1 Try.ty3 rfl rfl ((q25.cell 0).trans rfl) ?_)
  refine SeqR.d1 rfl rfl rfl (yl_fieldAddr Try.fd39_0 rfl rfl ?_)
  refine SeqR.u rfl rfl (yl_store (vs := [.int .i64 (p_a.Kind)]) Try.ty3 rfl rfl rfl rfl rfl rfl hB22 (Nat.le_of_ble_eq_true rfl) ?_)
  intro w26 hB27 hO28
  have hB27 : Box w26 b18 39 [.int .i64 (p_a.Kind), .slice none 0 0, .slice none 0 0] := hB27
  have hO28z := hO28.size
  refine SeqR.done ?_
  refine tn ?_
  refine CW.seq ?_
  refine CW.region ?_
  refine SeqR.d1 rfl rfl rfl (yl_fieldAddr Try.fd29_1 rfl rfl ?_)
  have q29 := Box.only q25 hO28 (by omega)
  refine SeqR.d1 rfl rfl rfl (yl_loadN (cs := [.slice A1 p_a.Old.Vals.length c1]) Try.ty27 rfl rfl (q29.cells (n := 1) rfl) rfl ?_)
  have q30 := RdS.ex good_Str h1 hE11
  have q31 := RdS.ex good_Str q30 hE17
  have q32 := RdS.ex good_Str q31 hE23
  have q33 := RdS.only good_Str q32 hO28 (by simp only [Iv]; omega)
  refine SeqR.d1 rfl rfl rfl (yl_call Try.en34 rfl (opvs_cons rfl opvs_nil) (Cal.mono (c_l_toRow p_a.Old (RdS.up q33 good_Str) o3.1) ?_))
  rintro v36 w34 ⟨A35, c35, lo35, hi35, rfl, h35, hrn38, hE37⟩
  have hE37z := Ex.size hE37
  refine SeqR.d1 rfl rfl rfl (yl_fieldAddr Try.fd39_1 rfl rfl ?_)
  have q39 := Box.ex hB27 hE37
  refine SeqR.u rfl rfl (yl_store (vs := [.slice A35 p_a.Old.Vals.length c35]) Try.ty37 rfl rfl rfl rfl rfl rfl q39 (Nat.le_of_ble_eq_true rfl) ?_)
  intro w40 hB41 hO42
  have hB41 : Box w40 b18 39 [.int .i64 (p_a.Kind), .slice A35 p_a.Old.Vals.length c35, .slice none 0 0] := hB41
  have hO42z := hO42.size
  refine SeqR.done ?_
  refine tn ?_
  refine CW.seq ?_
  refine CW.region ?_
  refine SeqR.d1 rfl rfl rfl (yl_fieldAddr Try.fd29_2 rfl rfl ?_)
  have q43 := Box.ex q29 hE37
  have q44 := Box.only q43 hO42 (by omega)
  refine SeqR.d1 rfl rfl rfl (yl_loadN (cs := [.slice A2 p_a.New.Vals.length c2]) Try.ty27 rfl rfl (q44.cells (n := 1) rfl) rfl ?_)
  have q45 := RdS.ex good_Str h2 hE11
  have q46 := RdS.ex good_Str q45 hE17
  have q47 := RdS.ex good_Str q46 hE23
  have q48 := RdS.only good_Str q47 hO28 (by simp only [Iv]; omega)
  have q49 := RdS.ex good_Str q48 hE37
  have q50 := RdS.only good_Str q49 hO42 (by simp only [Iv]; omega)
  refine SeqR.d1 rfl rfl rfl (yl_call Try.en34 rfl (opvs_cons rfl opvs_nil) (Cal.mono (c_l_toRow p_a.New (RdS.up q50 good_Str) o3.2) ?_))
  rintro v53 w51 ⟨A52, c52, lo52, hi52, rfl, h52, hrn55, hE54⟩
  have hE54z := Ex.size hE54
  refine SeqR.d1 rfl rfl rfl (yl_fieldAddr Try.fd39_2 rfl rfl ?_)
  have q56 := Box.ex hB41 hE54
  refine SeqR.u rfl rfl (yl_store (vs := [.slice A52 p_a.New.Vals.length c52]) Try.ty37 rfl rfl rfl rfl rfl rfl q56 (Nat.le_of_ble_eq_true rfl) ?_)
  intro w57 hB58 hO59
  have hB58 : Box w57 b18 39 [.int .i64 (p_a.Kind), .slice A35 p_a.Old.Vals.length c35, .slice A52 p_a.New.Vals.length c52] := hB58
  have hO59z := hO59.size
  refine SeqR.done ?_
  refine tn ?_
  refine CW.seq ?_
  refine CW.region ?_
  refine SeqR.d1 rfl rfl rfl (yl_loadN (cs := [.int .i64 (p_a.Kind), .slice A35 p_a.Old.Vals.length c35, .slice A52 p_a.New.Vals.length c52]) Try.ty39 rfl rfl (hB58.cells (n := 3) rfl) rfl ?_)
  have q60 := Box.ex hB16 hE23
  have q61 := Box.only q60 hO28 (by omega)
  have q62 := Box.ex q61 hE37
  have q63 := Box.only q62 hO42 (by omega)
  have q64 := Box.ex q63 hE54
  have q65 := Box.only q64 hO59 (by omega)
  refine SeqR.u rfl rfl (yl_store (vs := [.int .i64 (p_a.Kind), .slice A35 p_a.Old.Vals.length c35, .slice A52 p_a.New.Vals.length c52]) Try.ty39 rfl rfl rfl rfl rfl rfl q65 (Nat.le_of_ble_eq_true rfl) ?_)
  intro w66 hB67 hO68
  have hB67 : Box w66 b12 39 [.int .i64 (p_a.Kind), .slice A35 p_a.Old.Vals.length c35, .slice A52 p_a.New.Vals.length c52] := hB67
  have hO68z := hO68.size
  refine SeqR.done ?_
  refine tn ?_
  refine CW.ret ?_
  refine rr rfl (.cons ⟨_, rfl, run_loadN Try.ty39 (cs := [.int .i64 (p_a.Kind), .slice A35 p_a.Old.Vals.length c35, .slice A52 p_a.New.Vals.length c52]) rfl (hB67.cells (n := 3) rfl)⟩ .nil) ?_
  have hM69 : p_a = (p_a) := (to_RowAct _).symm.trans <| by simp only [l_toRowAct, cond_true, cond_false, loopE_done, loopE_ret]
  have q70 := OwnL.only good_Str h35 hO42 (by omega)
  have q71 := OwnL.ex good_Str q70 hE54
  have q72 := OwnL.only good_Str q71 hO59 (by omega)
  have q73 := OwnL.only good_Str q72 hO68 (by omega)
  have hrg74 := OwnL.rng q73
  have q75 := OwnL.only good_Str h52 hO59 (by omega)
  have q76 := OwnL.only good_Str q75 hO68 (by omega)
  have hrg77 := OwnL.rng q76
  rw [hM69]
  have q78 := Ex.trans (Ex.refl w) hE11
  have q79 := Ex.trans q78 hE17
  have q80 := Ex.trans q79 hE23
  have q81 := Below.only q80 hO28 (by omega)
  have q82 := Ex.trans q81 hE37
  have q83 := Below.only q82 hO42 (by omega)
  have q84 := Ex.trans q83 hE54
  have q85 := Below.only q84 hO59 (by omega)
  have q86 := Below.only q85 hO68 (by omega)
  exact ⟨A35, c35, lo35, hi35, A52, c52, lo52, hi52, rfl, q73, q76, (by omega), (by omega), (by omega), q86⟩
set_option maxRecDepth 100000 in
set_option maxHeartbeats 2000000 in
theorem c_l_toStmt {A1 : Option Addr} {c1 : Nat} {A2 : Option Addr} {c2 : Nat} {w : World} (p_a : DStmt) (h1 : RdS w (Iv 0 w.heap.size) (RF e_Str) 1 A1 p_a.Act.Old.Vals.length c1 p_a.Act.Old.Vals) (h2 : RdS w (Iv 0 w.heap.size) (RF e_Str) 1 A2 p_a.Act.New.Vals.length c2 p_a.Act.New.Vals) (o3 : ok_Stmt p_a) : Cal Try.prog 24 #[.agg #[.int .i64 (p_a.Kind), .int .i64 (p_a.Act.Kind), .slice A1 p_a.Act.Old.Vals.length c1, .slice A2 p_a.Act.New.Vals.length c2, .string (bs (p_a.Idx)), .string (bs (p_a.Low)), .string (bs (p_a.High))]] w fun v w' => ∃ A_1 c_1 lo_1 hi_1 A_2 c_2 lo_2 hi_2, v = .agg #[.int .i64 (p_a.Kind), .int .i64 (p_a.Act.Kind), .slice A_1 p_a.Act.Old.Vals.length c_1, .slice A_2 p_a.Act.New.Vals.length c_2, .string (bs (p_a.Idx)), .string (bs (p_a.Low)), .string (bs (p_a.High))] ∧ OwnL w' lo_1 hi_1 9 1 (RF e_Str) A_1 p_a.Act.Old.Vals.length c_1 p_a.Act.Old.Vals ∧ OwnL w' lo_2 hi_2 9 1 (RF e_Str) A_2 p_a.Act.New.Vals.length c_2 p_a.Act.New.Vals ∧ (w.heap.size ≤ lo_1 ∧ lo_1 ≤ hi_1 ∧ hi_1 ≤ w'.heap.size) ∧ (w.heap.size ≤ lo_2 ∧ lo_2 ≤ hi_2 ∧ hi_2 ≤ w'.heap.size) ∧ (hi_1 ≤ lo_2 ∨ hi_2 ≤ lo_1) ∧ Ex w w' := by
  have hol4 := o3.1.1.1
  have hol5 := o3.1.2.1
  have hol6 : p_a.Idx.length ≤ 1073741824 := o3.2.1
  have hol7 : p_a.Low.length ≤ 1073741824 := o3.2.2.1
  have hol8 : p_a.High.length ≤ 1073741824 := o3.2.2.2
  refine Cal.of (vs := [.agg #[.int .i64 (p_a.Kind), .int .i64 (p_a.Act.Kind), .slice A1 p_a.Act.Old.Vals.length c1, .slice A2 p_a.Act.New.Vals.length c2, .string (bs (p_a.Idx)), .string (bs (p_a.Low)), .string (bs (p_a.High))]]) Try.func24 rfl Try.ntmps24 rfl ?_
  refine CW.seq ?_
  refine CW.region ?_
  refine SeqR.d1 rfl rfl rfl (yl_box (cs := [.int .i64 (p_a.Kind), .int .i64 (p_a.Act.Kind), .slice A1 p_a.Act.Old.Vals.length c1, .slice A2 p_a.Act.New.Vals.length c2, .string (bs (p_a.Idx)), .string (bs (p_a.Low)), .string (bs (p_a.High))]) rfl rfl rfl ?_)
  intro b9 w10 hs11 hz12 hB13 hE14
  refine SeqR.d1 rfl rfl rfl (yl_alloc Try.ty49 (cs := [.int .i64 (0), .int .i64 (0), .slice none 0 0, .slice none 0 0, .string (bs (([] : Str))), .string (bs (([] : Str))), .string (bs (([] : Str)))]) rfl rfl ?_)
  intro b15 w16 hs17 hz18 hB19 hE20
  refine SeqR.done ?_
  refine tn ?_
  refine CW.seq ?_
  refine CW.region ?_
  refine SeqR.d1 rfl rfl rfl (yl_alloc Try.ty49 (cs := [.int .i64 (0), .int .i64 (0), .slice none 0 0, .slice none 0 0, .string (bs (([] : Str))), .string (bs (([] : Str))), .string (bs (([] : Str)))]) rfl rfl ?_)
  intro b21 w22 hs23 hz24 hB25 hE26
  refine SeqR.done ?_
  refine tn ?_
  refine CW.seq ?_
  refine CW.region ?_
  refine SeqR.d1 rfl rfl rfl (yl_fieldAddr Try.fd45_0 rfl rfl ?_)
  have q27 := Box.ex hB13 hE20
  have q28 := Box.ex q27 hE26
  refine SeqR.d1 rfl rfl rfl (yl_load1 Try.ty3 rfl rfl ((q28.cell 0).trans rfl) ?_)
  refine SeqR.d1 rfl rfl rfl (yl_fieldAddr Try.fd49_0 rfl rfl ?_)
  refine SeqR.u rfl rfl (yl_store (vs := [.int .i64 (p_a.Kind)]) Try.ty3 rfl rfl rfl rfl rfl rfl hB25 (Nat.le_of_ble_eq_true rfl) ?_)
  intro w29 hB30 hO31
  have hB30 : Box w29 b21 49 [.int .i64 (p_a.Kind), .int .i64 (0), .slice none 0 0, .slice none 0 0, .string (bs (([] : Str))), .string (bs (([] : Str))), .string (bs (([] : Str)))] := hB30
  have hO31z := hO31.size
  refine SeqR.done ?_
  refine tn ?_
  refine CW.seq ?_
  refine CW.region ?_
  refine SeqR.d1 rfl rfl rfl (yl_fieldAddr Try.fd45_1 rfl rfl ?_)
  have q32 := Box.only q28 hO31 (by omega)
  refine SeqR.d1 rfl rfl rfl (yl_loadN (cs := [.int .i64 (p_a.Act.Kind), .slice A1 p_a.Act.Old.Vals.length c1, .slice A2 p_a.Act.New.Vals.length c2]) Try.ty29 rfl rfl (q32.cells (n := 3) rfl) rfl ?_)
  have q33 := RdS.ex good_Str h1 hE14
  have q34 := RdS.ex good_Str q33 hE20
  have q35 := RdS.ex good_Str q34 hE26
  have q36 := RdS.only good_Str q35 hO31 (by simp only [Iv]; omega)
  have q37 := RdS.ex good_Str h2 hE14
  have q38 := RdS.ex good_Str q37 hE20
  have q39 := RdS.ex good_Str q38 hE26
  have q40 := RdS.only good_Str q39 hO31 (by simp only [Iv]; omega)
  refine SeqR.d1 rfl rfl rfl (yl_call Try.en18 rfl (opvs_cons rfl opvs_nil) (Cal.mono (c_l_toRowAct p_a.Act (RdS.up q36 good_Str) (RdS.up q40 good_Str) o3.1) ?_))
  rintro v44 w41 ⟨A42, c42, lo42, hi42, A43, c43, lo43, hi43, rfl, h42, h43, hrn46, hrn47, hrn48, hE45⟩
  have hE45z := Ex.size hE45
  refine SeqR.d1 rfl rfl rfl (yl_fieldAddr Try.fd49_1 rfl rfl ?_)
  have q49 := Box.ex hB30 hE45
  refine SeqR.u rfl rfl (yl_store (vs := [.int .i64 (p_a.Act.Kind), .slice A42 p_a.Act.Old.Vals.length c42, .slice A43 p_a.Act.New.Vals.length c43]) Try.ty39 rfl rfl rfl rfl rfl rfl q49 (Nat.le_of_ble_eq_true rfl) ?_)
  intro w50 hB51 hO52
  have hB51 : Box w50 b21 49 [.int .i64 (p_a.Kind), .int .i64 (p_a.Act.Kind), .slice A42 p_a.Act.Old.Vals.length c42, .slice A43 p_a.Act.New.Vals.length c43, .string (bs (([] : Str))), .string (bs (([] : Str))), .string (bs (([] : Str)))] := hB51
  have hO52z := hO52.size
  refine SeqR.done ?_
  refine tn ?_
  refine CW.seq ?_
  refine CW.region ?_
  refine SeqR.d1 rfl rfl rfl (yl_fieldAddr Try.fd45_2 rfl rfl ?_)
  have q53 := Box.ex q32 hE45
  have q54 := Box.only q53 hO52 (by omega)
  refine SeqR.d1 rfl rfl rfl (yl_load1 Try.ty9 rfl rfl ((q54.cell 4).trans rfl) ?_)
  refine SeqR.d1 rfl rfl rfl (yl_fieldAddr Try.fd49_2 rfl rfl ?_)
  refine SeqR.u rfl rfl (yl_store (vs := [.string (bs (p_a.Idx))]) Try.ty9 rfl rfl rfl rfl rfl rfl hB51 (Nat.le_of_ble_eq_true rfl) ?_)
  intro w55 hB56 hO57
  have hB56 : Box w55 b21 49 [.int .i64 (p_a.Kind), .int .i64 (p_a.Act.Kind), .slice A42 p_a.Act.Old.Vals.length c42, .slice A43 p_a.Act.New.Vals.length c43, .string (bs (p_a.Idx)), .string (bs (([] : Str))), .string (bs (([] : Str)))] := hB56
  have hO57z := hO57.size
  refine SeqR.done ?_
  refine tn ?_
  refine CW.seq ?_
  refine CW.region ?_
  refine SeqR.d1 rfl rfl rfl (yl_fieldAddr Try.fd45_3 rfl rfl ?_)
  have q58 := Box.only q54 hO57 (by omega)
  refine SeqR.d1 rfl rfl rfl (yl_load1 Try.ty9 rfl rfl ((q58.cell 5).trans rfl) ?_)
  refine SeqR.d1 rfl rfl rfl (yl_fieldAddr Try.fd49_3 rfl rfl ?_)
  refine SeqR.u rfl rfl (yl_store (vs := [.string (bs (p_a.Low))]) Try.ty9 rfl rfl rfl rfl rfl rfl hB56 (Nat.le_of_ble_eq_true rfl) ?_)
  intro w59 hB60 hO61
  have hB60 : Box w59 b21 49 [.int .i64 (p_a.Kind), .int .i64 (p_a.Act.Kind), .slice A42 p_a.Act.Old.Vals.length c42, .slice A43 p_a.Act.New.Vals.length c43, .string (bs (p_a.Idx)), .string (bs (p_a.Low)), .string (bs (([] : Str)))] := hB60
  have hO61z := hO61.size
  refine SeqR.done ?_
  refine tn ?_
  refine CW.seq ?_
  refine CW.region ?_
  refine SeqR.d1 rfl rfl rfl (yl_fieldAddr Try.fd45_4 rfl rfl ?_)
  have q62 := Box.only q58 hO61 (by omega)
  refine SeqR.d1 rfl rfl rfl (yl_load1 Try.ty9 rfl rfl ((q62.cell 6).trans rfl) ?_)
  refine SeqR.d1 rfl rfl rfl (yl_fieldAddr Try.fd49_4 rfl rfl ?_)
  refine SeqR.u rfl rfl (yl_store (vs := [.string (bs (p_a.High))]) Try.ty9 rfl rfl rfl rfl rfl rfl hB60 (Nat.le_of_ble_eq_true rfl) ?_)
  intro w63 hB64 hO65
  have hB64 : Box w63 b21 49 [.int .i64 (p_a.Kind), .int .i64 (p_a.Act.Kind), .slice A42 p_a.Act.Old.Vals.length c42, .slice A43 p_a.Act.New.Vals.length c43, .string (bs (p_a.Idx)), .string (bs (p_a.Low)), .string (bs (p_a.High))] := hB64
  have hO65z := hO65.size
  refine SeqR.done ?_
  refine tn ?_
  refine CW.seq ?_
  refine CW.region ?_
  refine SeqR.d1 rfl rfl rfl (yl_loadN (cs := [.int .i64 (p_a.Kind), .int .i64 (p_a.Act.Kind), .slice A42 p_a.Act.Old.Vals.length c42, .slice A43 p_a.Act.New.Vals.length c43, .string (bs (p_a.Idx)), .string (bs (p_a.Low)), .string (bs (p_a.High))]) Try.ty49 rfl rfl (hB64.cells (n := 7) rfl) rfl ?_)
  have q66 := Box.ex hB19 hE26
  have q67 := Box.only q66 hO31 (by omega)
  have q68 := Box.ex q67 hE45
  have q69 := Box.only q68 hO52 (by omega)
  have q70 := Box.only q69 hO57 (by omega)
  have q71 := Box.only q70 hO61 (by omega)
  have q72 := Box.only q71 hO65 (by omega)
  refine SeqR.u rfl rfl (yl_store (vs := [.int .i64 (p_a.Kind), .int .i64 (p_a.Act.Kind), .slice A42 p_a.Act.Old.Vals.length c42, .slice A43 p_a.Act.New.Vals.length c43, .string (bs (p_a.Idx)), .string (bs (p_a.Low)), .string (bs (p_a.High))]) Try.ty49 rfl rfl rfl rfl rfl rfl q72 (Nat.le_of_ble_eq_true rfl) ?_)
  intro w73 hB74 hO75
  have hB74 : Box w73 b15 49 [.int .i64 (p_a.Kind), .int .i64 (p_a.Act.Kind), .slice A42 p_a.Act.Old.Vals.length c42, .slice A43 p_a.Act.New.Vals.length c43, .string (bs (p_a.Idx)), .string (bs (p_a.Low)), .string (bs (p_a.High))] := hB74
  have hO75z := hO75.size
  refine SeqR.done ?_
  refine tn ?_
  refine CW.ret ?_
  refine rr rfl (.cons ⟨_, rfl, run_loadN Try.ty49 (cs := [.int .i64 (p_a.Kind), .int .i64 (p_a.Act.Kind), .slice A42 p_a.Act.Old.Vals.length c42, .slice A43 p_a.Act.New.Vals.length c43, .string (bs (p_a.Idx)), .string (bs (p_a.Low)), .string (bs (p_a.High))]) rfl (hB74.cells (n := 7) rfl)⟩ .nil) ?_
  have hM76 : p_a = (p_a) := (to_Stmt _).symm.trans <| by simp only [l_toStmt, cond_true, cond_false, loopE_done, loopE_ret]
  have q77 := OwnL.only good_Str h42 hO52 (by omega)
  have q78 := OwnL.only good_Str q77 hO57 (by omega)
  have q79 := OwnL.only good_Str q78 hO61 (by omega)
  have q80 := OwnL.only good_Str q79 hO65 (by omega)
  have q81 := OwnL.only good_Str q80 hO75 (by omega)
  have hrg82 := OwnL.rng q81
  have q83 := OwnL.only good_Str h43 hO52 (by omega)
  have q84 := OwnL.only good_Str q83 hO57 (by omega)
  have q85 := OwnL.only good_Str q84 hO61 (by omega)
  have q86 := OwnL.only good_Str q85 hO65 (by omega)
  have q87 := OwnL.only good_Str q86 hO75 (by omega)
  have hrg88 := OwnL.rng q87
  rw [hM76]
  have q89 := Ex.trans (Ex.refl w) hE14
  have q90 := Ex.trans q89 hE20
  have q91 := Ex.trans q90 hE26
  have q92 := Below.only q91 hO31 (by omega)
  have q93 := Ex.trans q92 hE45
  have q94 := Below.only q93 hO52 (by omega)
  have q95 := Below.only q94 hO57 (by omega)
  have q96 := Below.only q95 hO61 (by omega)
  have q97 := Below.only q96 hO65 (by omega)
  have q98 := Below.only q97 hO75 (by omega)
  exact ⟨A42, c42, lo42, hi42, A43, c43, lo43, hi43, rfl, q81, q87, (by omega), (by omega), (by omega), q98⟩
set_option maxRecDepth 100000 in
set_option maxHeartbeats 2000000 in
theorem c_i_within {w : World} (p_n : Int) (p_low : Int) (p_high : Int) : Cal Try.prog 129 #[.int .i64 (p_n), .int .i64 (p_low), .int .i64 (p_high)] w fun v w' => v = .bool ((i_within p_n p_low p_high)) ∧ Ex w w' := by
  refine Cal.of (vs := [.int .i64 (p_n), .int .i64 (p_low), .int .i64 (p_high)]) Try.func129 rfl Try.ntmps129 rfl ?_
  refine CW.seq ?_
  refine CW.region ?_
  refine SeqR.d1 rfl rfl rfl (yl_assign rfl rfl ?_)
  refine SeqR.done ?_
  refine tn ?_
  refine CW.seq ?_
  refine CW.region ?_
  refine SeqR.d1 rfl rfl rfl (yl_move rfl rfl ?_)
  refine SeqR.d1 rfl rfl rfl (yl_move rfl rfl ?_)
  refine SeqR.d1 rfl rfl rfl (yl_geq rfl rfl rfl ?_)
  refine SeqR.d1 rfl rfl rfl (yl_move rfl rfl ?_)
  refine bcase (decide (p_low ≤ p_n)) (fun hb1 => ?_) (fun hb1 => ?_)
  · have hb1p := dec_t hb1
    refine SeqR.y rfl rfl rfl rfl rfl hb1 (yl_move rfl rfl ?_)
    refine SeqR.y rfl rfl rfl rfl rfl hb1 (yl_move rfl rfl ?_)
    refine SeqR.y rfl rfl rfl rfl rfl hb1 (yl_leq rfl rfl rfl ?_)
    refine SeqR.d1 rfl rfl rfl (yl_pick_t rfl rfl hb1 rfl ?_)
    refine SeqR.d1 rfl rfl rfl (yl_assign rfl rfl ?_)
    refine SeqR.done ?_
    refine tn ?_
    refine CW.ret ?_
    refine rr rfl (.cons rfl .nil) ?_
    have hM2 : (i_within p_n p_low p_high) = (decide (p_n ≤ p_high)) := by simp only [i_within, hb1, cond_true, cond_false, loopE_done, loopE_ret]
    rw [hM2]
    exact ⟨rfl, (Ex.refl w)⟩
  · have hb1p := dec_f hb1
    refine SeqR.z rfl rfl rfl rfl rfl hb1 ?_
    refine SeqR.z rfl rfl rfl rfl rfl hb1 ?_
    refine SeqR.z rfl rfl rfl rfl rfl hb1 ?_
    refine SeqR.d1 rfl rfl rfl (yl_pick_f rfl rfl hb1 rfl ?_)
    refine SeqR.d1 rfl rfl rfl (yl_assign rfl rfl ?_)
    refine SeqR.done ?_
    refine tn ?_
    refine CW.ret ?_
    refine rr rfl (.cons rfl .nil) ?_
    have hM3 : (i_within p_n p_low p_high) = (false) := by simp only [i_within, hb1, cond_true, cond_false, loopE_done, loopE_ret]
    rw [hM3]
    exact ⟨rfl, (Ex.refl w)⟩
set_option maxRecDepth 100000 in
set_option maxHeartbeats 2000000 in
theorem c_i_isStage {w : World} (p_stage : Int) : Cal Try.prog 108 #[.int .i64 (p_stage)] w fun v w' => v = .bool ((i_isStage p_stage)) ∧ Ex w w' := by
  refine Cal.of (vs := [.int .i64 (p_stage)]) Try.func108 rfl Try.ntmps108 rfl ?_
  refine CW.seq ?_
  refine CW.region ?_
  refine SeqR.d1 rfl rfl rfl (yl_assign rfl rfl ?_)
  refine SeqR.done ?_
  refine tn ?_
  refine CW.seq ?_
  refine CW.region ?_
  refine SeqR.d1 rfl rfl rfl (yl_move rfl rfl ?_)
  refine SeqR.d1 rfl rfl rfl (yl_call Try.en129 rfl (opvs_cons rfl (opvs_cons rfl (opvs_cons rfl opvs_nil))) (Cal.mono (c_i_within p_stage 0 3) ?_))
  rintro v2 w1 ⟨rfl, hE3⟩
  have hE3z := Ex.size hE3
  refine SeqR.d1 rfl rfl rfl (yl_assign rfl rfl ?_)
  refine SeqR.done ?_
  refine tn ?_
  refine CW.ret ?_
  refine rr rfl (.cons rfl .nil) ?_
  have hM4 : (i_isStage p_stage) = ((i_within p_stage 0 3)) := by simp only [i_isStage, cond_true, cond_false, loopE_done, loopE_ret]
  rw [hM4]
  have q5 := Ex.trans (Ex.refl w) hE3
  exact ⟨rfl, q5⟩
set_option maxRecDepth 100000 in
set_option maxHeartbeats 2000000 in
theorem c_i_areLetters {w : World} (p_s : Str) (p_most : Int) (o1 : okS p_s) : Cal Try.prog 142 #[.string (bs (p_s)), .int .i64 (p_most)] w fun v w' => v = .bool ((i_areLetters p_s p_most)) ∧ Ex w w' := by
  have hol2 : p_s.length ≤ 1073741824 := o1
  refine Cal.of (vs := [.string (bs (p_s)), .int .i64 (p_most)]) Try.func142 rfl Try.ntmps142 rfl ?_
  refine CW.seq ?_
  refine CW.region ?_
  refine SeqR.d1 rfl rfl rfl (yl_assign rfl rfl ?_)
  refine SeqR.done ?_
  refine tn ?_
  refine CW.seq ?_
  refine CW.seq ?_
  refine CW.region ?_
  refine SeqR.d1 rfl rfl rfl (yl_move rfl rfl ?_)
  refine SeqR.d1 rfl rfl rfl (yl_slen Try.un9 (a := p_s) rfl rfl ?_)
  refine SeqR.d1 rfl rfl rfl (yl_move rfl rfl ?_)
  refine SeqR.done ?_
  refine tn ?_
  refine CW.block ?_
  refine CW.loop (fun m4 L5 w6 => ∃ (k3 : Nat), m4 = p_s.length - k3 ∧ k3 ≤ p_s.length ∧ w.heap.size ≤ w6.heap.size ∧ lkp L5 0 = some (.string (bs (p_s))) ∧ lkp L5 1 = some (.int .i64 (p_most)) ∧ lkp L5 7 = some (.int .i64 ((p_s.length : Int))) ∧ lkp L5 8 = some (.int .i64 ((k3 : Int))) ∧ Ex w w6 ∧ loopM (B_i_areLetters_0 p_s p_most) (p_s.length - k3) k3 () = loopM (B_i_areLetters_0 p_s p_most) (p_s.length - 0) 0 ()) (p_s.length - 0) ?_ ?_
  · exact ⟨0, rfl, (by omega), Nat.le_refl _, rfl, rfl, rfl, rfl, (Ex.refl w), rfl⟩
  · rintro m7 L8 w9 ⟨k3, rfl, hk10, hsz12, hl13, hl14, hl15, hl16, hf17, hI11⟩
    refine CW.sub (Sub.cons hl13 (Sub.cons hl14 (Sub.cons hl15 (Sub.cons hl16 (Sub.nil _))))) ?_
    have hf17z := Ex.size hf17
    have hbg18 : p_s.length ≤ 1073741824 := o1
    rcases Nat.lt_or_ge k3 p_s.length with hlt19 | hlt19
    · skip
      refine CW.seq ?_
      refine CW.region ?_
      refine SeqR.d1 rfl rfl rfl (yl_lss rfl rfl rfl ?_)
      refine SeqR.done ?_
      refine tn ?_
      refine CW.seq ?_
      refine CW.cond_t rfl (lt_t hlt19) ?_
      refine CW.skip ?_
      refine tn ?_
      refine CW.seq ?_
      refine CW.block ?_
      refine CW.seq ?_
      refine CW.region ?_
      refine SeqR.d1 rfl rfl rfl (yl_move rfl rfl ?_)
      refine SeqR.d1 rfl rfl rfl (yl_assign rfl rfl ?_)
      refine SeqR.done ?_
      refine tn ?_
      refine CW.seq ?_
      refine CW.region ?_
      refine SeqR.d1 rfl rfl rfl (yl_move rfl rfl ?_)
      refine SeqR.d1 rfl rfl rfl (yl_move rfl rfl ?_)
      refine SeqR.d1 rfl rfl rfl (yl_sindexN Try.un9 (a := p_s) rfl rfl rfl (by first | omega | assumption | (simp only [IntKind.wrap_i64] at *; omega)) ?_)
      refine SeqR.d1 rfl rfl rfl (yl_lss rfl rfl rfl ?_)
      refine SeqR.d1 rfl rfl rfl (yl_move rfl rfl ?_)
      refine bcase (decide (((p_s.getD k3 0).toNat : Int) < 97)) (fun hb20 => ?_) (fun hb20 => ?_)
      · have hb20p := dec_t hb20
        refine SeqR.z rfl rfl rfl rfl rfl hb20 ?_
        refine SeqR.z rfl rfl rfl rfl rfl hb20 ?_
        refine SeqR.z rfl rfl rfl rfl rfl hb20 ?_
        refine SeqR.z rfl rfl rfl rfl rfl hb20 ?_
        refine SeqR.d1 rfl rfl rfl (yl_pick_t rfl rfl hb20 rfl ?_)
        refine SeqR.done ?_
        refine tn ?_
        refine CW.cond_t rfl rfl ?_
        refine CW.seq ?_
        refine CW.region ?_
        refine SeqR.d1 rfl rfl rfl (yl_assign rfl rfl ?_)
        refine SeqR.done ?_
        refine tn ?_
        refine CW.ret ?_
        refine br ?_
        refine tr ?_
        refine tr ?_
        have hB22 : B_i_areLetters_0 p_s p_most k3 () = .ret false := by simp only [B_i_areLetters_0, hb20, cond_true, cond_false, loopE_done, loopE_ret]
        have hL21 : loopM (B_i_areLetters_0 p_s p_most) (p_s.length - 0) 0 () = .ret false := hI11.symm.trans (loopM.ret hlt19 hB22)
        refine br ?_
        refine tr ?_
        refine rr rfl (.cons rfl .nil) ?_
        have hM23 : (i_areLetters p_s p_most) = (false) := by simp only [i_areLetters, hb20, hL21, cond_true, cond_false, loopE_done, loopE_ret]
        rw [hM23]
        exact ⟨rfl, hf17⟩
      · have hb20p := dec_f hb20
        refine SeqR.y rfl rfl rfl rfl rfl hb20 (yl_move rfl rfl ?_)
        refine SeqR.y rfl rfl rfl rfl rfl hb20 (yl_move rfl rfl ?_)
        refine SeqR.y rfl rfl rfl rfl rfl hb20 (yl_sindexN Try.un9 (a := p_s) rfl rfl rfl (by first | omega | assumption | (simp only [IntKind.wrap_i64] at *; omega)) ?_)
        refine SeqR.y rfl rfl rfl rfl rfl hb20 (yl_gtr rfl rfl rfl ?_)
        refine SeqR.d1 rfl rfl rfl (yl_pick_f rfl rfl hb20 rfl ?_)
        refine SeqR.done ?_
        refine tn ?_
        refine bcase (decide (122 < ((p_s.getD k3 0).toNat : Int))) (fun hb24 => ?_) (fun hb24 => ?_)
        · have hb24p := dec_t hb24
          refine CW.cond_t rfl hb24 ?_
          refine CW.seq ?_
          refine CW.region ?_
          refine SeqR.d1 rfl rfl rfl (yl_assign rfl rfl ?_)
          refine SeqR.done ?_
          refine tn ?_
          refine CW.ret ?_
          refine br ?_
          refine tr ?_
          refine tr ?_
          have hB26 : B_i_areLetters_0 p_s p_most k3 () = .ret false := by simp only [B_i_areLetters_0, hb20, hb24, cond_true, cond_false, loopE_done, loopE_ret]
          have hL25 : loopM (B_i_areLetters_0 p_s p_most) (p_s.length - 0) 0 () = .ret false := hI11.symm.trans (loopM.ret hlt19 hB26)
          refine br ?_
          refine tr ?_
          refine rr rfl (.cons rfl .nil) ?_
          have hM27 : (i_areLetters p_s p_most) = (false) := by simp only [i_areLetters, hb20, hb24, hL25, cond_true, cond_false, loopE_done, loopE_ret]
          rw [hM27]
          exact ⟨rfl, hf17⟩
        · have hb24p := dec_f hb24
          refine CW.cond_f rfl hb24 ?_
          refine CW.skip ?_
          refine bn ?_
          refine tn ?_
          refine CW.region ?_
          refine SeqR.d1 rfl rfl rfl (yl_inc rfl rfl rfl (by omega) ?_)
          refine SeqR.d1 rfl rfl rfl (yl_move rfl rfl ?_)
          refine SeqR.done ?_
          refine tn ?_
          have hB28 : B_i_areLetters_0 p_s p_most k3 () = .cont () := by simp only [B_i_areLetters_0, hb20, hb24, cond_true, cond_false, loopE_done, loopE_ret]
          exact ⟨p_s.length - (k3 + 1), by omega, k3 + 1, rfl, hlt19, (by omega), rfl, rfl, rfl, rfl, hf17, (loopM.cont hlt19 hB28).symm.trans hI11⟩
    · skip
      refine CW.seq ?_
      refine CW.region ?_
      refine SeqR.d1 rfl rfl rfl (yl_lss rfl rfl rfl ?_)
      refine SeqR.done ?_
      refine tn ?_
      refine CW.seq ?_
      refine CW.cond_f rfl (lt_f hlt19) ?_
      refine CW.exit ?_
      refine tx ?_
      refine tx ?_
      have hL29 : loopM (B_i_areLetters_0 p_s p_most) (p_s.length - 0) 0 () = .done () := hI11.symm.trans (loopM.stop hlt19)
      refine bx ?_
      refine tn ?_
      refine CW.seq ?_
      refine CW.region ?_
      refine SeqR.d1 rfl rfl rfl (yl_move rfl rfl ?_)
      refine SeqR.d1 rfl rfl rfl (yl_slen Try.un9 (a := p_s) rfl rfl ?_)
      refine SeqR.d1 rfl rfl rfl (yl_move rfl rfl ?_)
      refine SeqR.d1 rfl rfl rfl (yl_call Try.en129 rfl (opvs_cons rfl (opvs_cons rfl (opvs_cons rfl opvs_nil))) (Cal.mono (c_i_within (p_s.length : Int) 1 p_most) ?_))
      rintro v31 w30 ⟨rfl, hE32⟩
      have hE32z := Ex.size hE32
      refine SeqR.d1 rfl rfl rfl (yl_assign rfl rfl ?_)
      refine SeqR.done ?_
      refine tn ?_
      refine CW.ret ?_
      refine rr rfl (.cons rfl .nil) ?_
      have hM33 : (i_areLetters p_s p_most) = ((i_within (p_s.length : Int) 1 p_most)) := by simp only [i_areLetters, hL29, cond_true, cond_false, loopE_done, loopE_ret]
      rw [hM33]
      have q34 := Ex.trans hf17 hE32
      exact ⟨rfl, q34⟩
set_option maxRecDepth 100000 in
set_option maxHeartbeats 2000000 in
theorem c_g_slices_Index_string {A1 : Option Addr} {c1 : Nat} {w : World} (p_s : List Str) (p_v : Str) (h1 : RdS w (Iv 0 w.heap.size) (RF e_Str) 1 A1 p_s.length c1 p_s) (o2 : (okL okS) p_s) (o3 : okS p_v) : Cal Try.prog 186 #[.slice A1 p_s.length c1, .string (bs (p_v))] w fun v w' => v = .int .i64 ((g_slices_Index_string p_s p_v)) ∧ Ex w w' := by
  have hol4 := o2.1
  have hol5 : p_v.length ≤ 1073741824 := o3
  refine Cal.of (vs := [.slice A1 p_s.length c1, .string (bs (p_v))]) Try.func186 rfl Try.ntmps186 rfl ?_
  refine CW.seq ?_
  refine CW.region ?_
  refine SeqR.d1 rfl rfl rfl (yl_assign rfl rfl ?_)
  refine SeqR.done ?_
  refine tn ?_
  refine CW.seq ?_
  refine CW.seq ?_
  refine CW.region ?_
  refine SeqR.d1 rfl rfl rfl (yl_move rfl rfl ?_)
  refine SeqR.d1 rfl rfl rfl (yl_len Try.un22 rfl rfl ?_)
  refine SeqR.d1 rfl rfl rfl (yl_move rfl rfl ?_)
  refine SeqR.done ?_
  refine tn ?_
  refine CW.block ?_
  refine CW.loop (fun m7 L8 w9 => ∃ (k6 : Nat), m7 = p_s.length - k6 ∧ k6 ≤ p_s.length ∧ w.heap.size ≤ w9.heap.size ∧ lkp L8 0 = some (.slice A1 p_s.length c1) ∧ lkp L8 1 = some (.string (bs (p_v))) ∧ lkp L8 7 = some (.int .i64 ((p_s.length : Int))) ∧ lkp L8 8 = some (.int .i64 ((k6 : Int))) ∧ RdS w9 (Iv 0 w.heap.size) (RF e_Str) 1 A1 p_s.length c1 p_s ∧ Ex w w9 ∧ loopM (B_g_slices_Index_string_0 p_s p_v) (p_s.length - k6) k6 () = loopM (B_g_slices_Index_string_0 p_s p_v) (p_s.length - 0) 0 ()) (p_s.length - 0) ?_ ?_
  · exact ⟨0, rfl, (by omega), Nat.le_refl _, rfl, rfl, rfl, rfl, h1, (Ex.refl w), rfl⟩
  · rintro m10 L11 w12 ⟨k6, rfl, hk13, hsz15, hl16, hl17, hl18, hl19, hf20, hf21, hI14⟩
    refine CW.sub (Sub.cons hl16 (Sub.cons hl17 (Sub.cons hl18 (Sub.cons hl19 (Sub.nil _))))) ?_
    have hf21z := Ex.size hf21
    have hbg22 := RdS.big hf20
    rcases Nat.lt_or_ge k6 p_s.length with hlt23 | hlt23
    · skip
      refine CW.seq ?_
      refine CW.region ?_
      refine SeqR.d1 rfl rfl rfl (yl_lss rfl rfl rfl ?_)
      refine SeqR.done ?_
      refine tn ?_
      refine CW.seq ?_
      refine CW.cond_t rfl (lt_t hlt23) ?_
      refine CW.skip ?_
      refine tn ?_
      refine CW.seq ?_
      refine CW.block ?_
      refine CW.seq ?_
      refine CW.region ?_
      refine SeqR.d1 rfl rfl rfl (yl_move rfl rfl ?_)
      refine SeqR.d1 rfl rfl rfl (yl_assign rfl rfl ?_)
      refine SeqR.done ?_
      refine tn ?_
      refine CW.seq ?_
      refine CW.region ?_
      refine SeqR.d1 rfl rfl rfl (yl_move rfl rfl ?_)
      refine SeqR.d1 rfl rfl rfl (yl_move rfl rfl ?_)
      refine SeqR.d1 rfl rfl rfl (yl_move rfl rfl ?_)
      obtain ⟨eb24, eo24, ec24, eA24, eS24, ebl24, el24, eR24, eC24⟩ := RdS.atD hf20 d_Str (i := k6) (by first | omega | assumption)
      obtain rfl := eR24
      have eC24 : Cells w12 eb24 (eo24 + k6 * 1) [.string (bs ((p_s.getD k6 d_Str)))] := eC24
      refine SeqR.d1 rfl rfl rfl (yl_indexAddrN Try.un22 Try.ty9 rfl rfl rfl eA24 (by first | omega | assumption | (simp only [IntKind.wrap_i64] at *; omega)) ?_)
      refine SeqR.d1 rfl rfl rfl (yl_load1 Try.ty9 rfl rfl (eC24 0 _ rfl) ?_)
      refine SeqR.d1 rfl rfl rfl (yl_seql (a := p_v) (b := (p_s.getD k6 d_Str)) rfl rfl rfl ?_)
      refine SeqR.done ?_
      refine tn ?_
      refine bcase (p_v == (p_s.getD k6 d_Str)) (fun hb25 => ?_) (fun hb25 => ?_)
      · skip
        refine CW.cond_t rfl hb25 ?_
        refine CW.seq ?_
        refine CW.region ?_
        refine SeqR.d1 rfl rfl rfl (yl_move rfl rfl ?_)
        refine SeqR.d1 rfl rfl rfl (yl_assign rfl rfl ?_)
        refine SeqR.done ?_
        refine tn ?_
        refine CW.ret ?_
        refine br ?_
        refine tr ?_
        refine tr ?_
        have hB27 : B_g_slices_Index_string_0 p_s p_v k6 () = .ret (k6 : Int) := by simp only [B_g_slices_Index_string_0, hb25, cond_true, cond_false, loopE_done, loopE_ret]
        have hL26 : loopM (B_g_slices_Index_string_0 p_s p_v) (p_s.length - 0) 0 () = .ret (k6 : Int) := hI14.symm.trans (loopM.ret hlt23 hB27)
        refine br ?_
        refine tr ?_
        refine rr rfl (.cons rfl .nil) ?_
        have hM28 : (g_slices_Index_string p_s p_v) = ((k6 : Int)) := by simp only [g_slices_Index_string, hb25, hL26, cond_true, cond_false, loopE_done, loopE_ret]
        rw [hM28]
        exact ⟨rfl, hf21⟩
      · skip
        refine CW.cond_f rfl hb25 ?_
        refine CW.skip ?_
        refine bn ?_
        refine tn ?_
        refine CW.region ?_
        refine SeqR.d1 rfl rfl rfl (yl_inc rfl rfl rfl (by omega) ?_)
        refine SeqR.d1 rfl rfl rfl (yl_move rfl rfl ?_)
        refine SeqR.done ?_
        refine tn ?_
        have hB29 : B_g_slices_Index_string_0 p_s p_v k6 () = .cont () := by simp only [B_g_slices_Index_string_0, hb25, cond_true, cond_false, loopE_done, loopE_ret]
        exact ⟨p_s.length - (k6 + 1), by omega, k6 + 1, rfl, hlt23, (by omega), rfl, rfl, rfl, rfl, hf20, hf21, (loopM.cont hlt23 hB29).symm.trans hI14⟩
    · skip
      refine CW.seq ?_
      refine CW.region ?_
      refine SeqR.d1 rfl rfl rfl (yl_lss rfl rfl rfl ?_)
      refine SeqR.done ?_
      refine tn ?_
      refine CW.seq ?_
      refine CW.cond_f rfl (lt_f hlt23) ?_
      refine CW.exit ?_
      refine tx ?_
      refine tx ?_
      have hL30 : loopM (B_g_slices_Index_string_0 p_s p_v) (p_s.length - 0) 0 () = .done () := hI14.symm.trans (loopM.stop hlt23)
      refine bx ?_
      refine tn ?_
      refine CW.seq ?_
      refine CW.region ?_
      refine SeqR.d1 rfl rfl rfl (yl_assign rfl rfl ?_)
      refine SeqR.done ?_
      refine tn ?_
      refine CW.ret ?_
      refine rr rfl (.cons rfl .nil) ?_
      have hM31 : (g_slices_Index_string p_s p_v) = (-1) := by simp only [g_slices_Index_string, hL30, cond_true, cond_false, loopE_done, loopE_ret]
      rw [hM31]
      exact ⟨rfl, hf21⟩
set_option maxRecDepth 100000 in
set_option maxHeartbeats 2000000 in
theorem c_g_slices_Contains_string {A1 : Option Addr} {c1 : Nat} {w : World} (p_s : List Str) (p_v : Str) (h1 : RdS w (Iv 0 w.heap.size) (RF e_Str) 1 A1 p_s.length c1 p_s) (o2 : (okL okS) p_s) (o3 : okS p_v) : Cal Try.prog 143 #[.slice A1 p_s.length c1, .string (bs (p_v))] w fun v w' => v = .bool ((g_slices_Contains_string p_s p_v)) ∧ Ex w w' := by
  have hol4 := o2.1
  have hol5 : p_v.length ≤ 1073741824 := o3
  refine Cal.of (vs := [.slice A1 p_s.length c1, .string (bs (p_v))]) Try.func143 rfl Try.ntmps143 rfl ?_
  refine CW.seq ?_
  refine CW.region ?_
  refine SeqR.d1 rfl rfl rfl (yl_assign rfl rfl ?_)
  refine SeqR.done ?_
  refine tn ?_
  refine CW.seq ?_
  refine CW.region ?_
  refine SeqR.d1 rfl rfl rfl (yl_move rfl rfl ?_)
  refine SeqR.d1 rfl rfl rfl (yl_move rfl rfl ?_)
  refine SeqR.d1 rfl rfl rfl (yl_call Try.en186 rfl (opvs_cons rfl (opvs_cons rfl opvs_nil)) (Cal.mono (c_g_slices_Index_string p_s p_v (RdS.up h1 good_Str) o2 o3) ?_))
  rintro v7 w6 ⟨rfl, hE8⟩
  have hE8z := Ex.size hE8
  refine SeqR.d1 rfl rfl rfl (yl_geq rfl rfl rfl ?_)
  refine SeqR.d1 rfl rfl rfl (yl_assign rfl rfl ?_)
  refine SeqR.done ?_
  refine tn ?_
  refine CW.ret ?_
  refine rr rfl (.cons rfl .nil) ?_
  have hM9 : (g_slices_Contains_string p_s p_v) = (decide (0 ≤ (g_slices_Index_string p_s p_v))) := by simp only [g_slices_Contains_string, cond_true, cond_false, loopE_done, loopE_ret]
  rw [hM9]
  have q10 := Ex.trans (Ex.refl w) hE8
  exact ⟨rfl, q10⟩
end Go.Proofs.Ytmlfbjlkccnpmaa
