/- Idx Key: what each call returns, part 2. -/
import Derived.Test.YtmlfbjlkccnpmaaIdxKeyC1
set_option linter.unusedVariables false
set_option linter.unusedSimpArgs false
namespace Go.Proofs.Ytmlfbjlkccnpmaa
open Go.RowKit Go.X
set_option maxRecDepth 100000 in
set_option maxHeartbeats 2000000 in
theorem c_s_l3Bytes {w : World} (p_s : Str) (p_more : Str) (o1 : okS p_s) (o2 : okS p_more) : Cal Try.prog 189 #[.string (bs (p_s)), .string (bs (p_more))] w fun v w' => v = .bool ((s_l3Bytes p_s p_more)) ∧ Ex w w' := by
  have hol3 : p_s.length ≤ 1073741824 := o1
  have hol4 : p_more.length ≤ 1073741824 := o2
  refine Cal.of (vs := [.string (bs (p_s)), .string (bs (p_more))]) Try.func189 rfl Try.ntmps189 rfl ?_
  refine CW.seq ?_
  refine CW.region ?_
  refine SeqR.d1 rfl rfl rfl (yl_assign rfl rfl ?_)
  refine SeqR.done ?_
  refine tn ?_
  refine CW.seq ?_
  refine CW.seq ?_
  refine CW.region ?_
  refine SeqR.d1 rfl rfl rfl (yl_assign rfl rfl ?_)
  refine SeqR.done ?_
  refine tn ?_
  refine CW.block ?_
  refine CW.loop (fun m6 L7 w8 => ∃ (k5 : Nat), m6 = p_s.length - k5 ∧ k5 ≤ p_s.length ∧ w.heap.size ≤ w8.heap.size ∧ lkp L7 0 = some (.string (bs (p_s))) ∧ lkp L7 1 = some (.string (bs (p_more))) ∧ lkp L7 5 = some (.int .i64 ((k5 : Int))) ∧ Ex w w8 ∧ loopM (B_s_l3Bytes_0 p_s p_more) (p_s.length - k5) k5 () = loopM (B_s_l3Bytes_0 p_s p_more) (p_s.length - 0) 0 ()) (p_s.length - 0) ?_ ?_
  · exact ⟨0, rfl, (by omega), Nat.le_refl _, rfl, rfl, rfl, (Ex.refl w), rfl⟩
  · rintro m9 L10 w11 ⟨k5, rfl, hk12, hsz14, hl15, hl16, hl17, hf18, hI13⟩
    refine CW.sub (Sub.cons hl15 (Sub.cons hl16 (Sub.cons hl17 (Sub.nil _)))) ?_
    have hf18z := Ex.size hf18
    have hbg19 : p_s.length ≤ 1073741824 := o1
    rcases Nat.lt_or_ge k5 p_s.length with hlt20 | hlt20
    · skip
      refine CW.seq ?_
      refine CW.seq ?_
      refine CW.region ?_
      refine SeqR.d1 rfl rfl rfl (yl_move rfl rfl ?_)
      refine SeqR.d1 rfl rfl rfl (yl_move rfl rfl ?_)
      refine SeqR.d1 rfl rfl rfl (yl_slen Try.un9 (a := p_s) rfl rfl ?_)
      refine SeqR.d1 rfl rfl rfl (yl_lss rfl rfl rfl ?_)
      refine SeqR.done ?_
      refine tn ?_
      refine CW.cond_t rfl (lt_t hlt20) ?_
      refine CW.skip ?_
      refine tn ?_
      refine CW.seq ?_
      refine CW.block ?_
      refine CW.seq ?_
      refine CW.region ?_
      refine SeqR.d1 rfl rfl rfl (yl_move rfl rfl ?_)
      refine SeqR.d1 rfl rfl rfl (yl_move rfl rfl ?_)
      refine SeqR.d1 rfl rfl rfl (yl_sindexN Try.un9 (a := p_s) rfl rfl rfl (by first | omega | assumption | (simp only [IntKind.wrap_i64] at *; omega)) ?_)
      refine SeqR.d1 rfl rfl rfl (yl_geq rfl rfl rfl ?_)
      refine SeqR.d1 rfl rfl rfl (yl_move rfl rfl ?_)
      refine bcase (decide (97 ≤ ((p_s.getD k5 0).toNat : Int))) (fun hb21 => ?_) (fun hb21 => ?_)
      · have hb21p := dec_t hb21
        refine SeqR.y rfl rfl rfl rfl rfl hb21 (yl_move rfl rfl ?_)
        refine SeqR.y rfl rfl rfl rfl rfl hb21 (yl_move rfl rfl ?_)
        refine SeqR.y rfl rfl rfl rfl rfl hb21 (yl_sindexN Try.un9 (a := p_s) rfl rfl rfl (by first | omega | assumption | (simp only [IntKind.wrap_i64] at *; omega)) ?_)
        refine SeqR.y rfl rfl rfl rfl rfl hb21 (yl_leq rfl rfl rfl ?_)
        refine SeqR.d1 rfl rfl rfl (yl_pick_t rfl rfl hb21 rfl ?_)
        refine SeqR.d1 rfl rfl rfl (yl_move rfl rfl ?_)
        refine bcase (decide (((p_s.getD k5 0).toNat : Int) ≤ 122)) (fun hb22 => ?_) (fun hb22 => ?_)
        · have hb22p := dec_t hb22
          refine SeqR.z rfl rfl rfl rfl rfl hb22 ?_
          refine SeqR.z rfl rfl rfl rfl rfl hb22 ?_
          refine SeqR.z rfl rfl rfl rfl rfl hb22 ?_
          refine SeqR.z rfl rfl rfl rfl rfl hb22 ?_
          refine SeqR.z rfl rfl rfl rfl rfl hb22 ?_
          refine SeqR.q rfl rfl rfl rfl rfl ?_
          refine SeqR.q rfl rfl rfl rfl rfl ?_
          refine SeqR.q rfl rfl rfl rfl rfl ?_
          refine SeqR.q rfl rfl rfl rfl rfl ?_
          refine SeqR.z rfl rfl rfl rfl rfl hb22 ?_
          refine SeqR.d1 rfl rfl rfl (yl_pick_t rfl rfl hb22 rfl ?_)
          refine SeqR.d1 rfl rfl rfl (yl_assign rfl rfl ?_)
          refine SeqR.done ?_
          refine tn ?_
          refine CW.seq ?_
          refine CW.seq ?_
          refine CW.region ?_
          refine SeqR.d1 rfl rfl rfl (yl_assign rfl rfl ?_)
          refine SeqR.done ?_
          refine tn ?_
          refine CW.block ?_
          refine CW.loop (fun m25 L26 w27 => ∃ (k23 : Nat) (x24 : Bool), m25 = p_more.length - k23 ∧ k23 ≤ p_more.length ∧ w11.heap.size ≤ w27.heap.size ∧ lkp L26 0 = some (.string (bs (p_s))) ∧ lkp L26 1 = some (.string (bs (p_more))) ∧ lkp L26 5 = some (.int .i64 ((k5 : Int))) ∧ lkp L26 6 = some (.bool (x24)) ∧ lkp L26 7 = some (.int .i64 ((k23 : Int))) ∧ lkp L26 19 = some (.string (bs (p_s))) ∧ lkp L26 20 = some (.int .i64 ((k5 : Int))) ∧ lkp L26 21 = some (.int .u8 (((p_s.getD k5 0).toNat : Int))) ∧ lkp L26 22 = some (.bool (decide (((p_s.getD k5 0).toNat : Int) ≤ 122))) ∧ lkp L26 25 = some (undef) ∧ lkp L26 26 = some (undef) ∧ lkp L26 27 = some (undef) ∧ lkp L26 28 = some (undef) ∧ lkp L26 29 = some (undef) ∧ lkp L26 30 = some (undef) ∧ lkp L26 31 = some (undef) ∧ lkp L26 32 = some (undef) ∧ lkp L26 33 = some (undef) ∧ lkp L26 34 = some (undef) ∧ Ex w w27 ∧ loopM (B_s_l3Bytes_1 p_s p_more k5) (p_more.length - k23) k23 (x24) = loopM (B_s_l3Bytes_1 p_s p_more k5) (p_more.length - 0) 0 (true)) (p_more.length - 0) ?_ ?_
          · exact ⟨0, true, rfl, (by omega), Nat.le_refl _, rfl, rfl, rfl, rfl, rfl, rfl, rfl, rfl, rfl, rfl, rfl, rfl, rfl, rfl, rfl, rfl, rfl, rfl, rfl, hf18, rfl⟩
          · rintro m28 L29 w30 ⟨k23, x24, rfl, hk31, hsz33, hl34, hl35, hl36, hl37, hl38, hl39, hl40, hl41, hl42, hl43, hl44, hl45, hl46, hl47, hl48, hl49, hl50, hl51, hl52, hf53, hI32⟩
            refine CW.sub (Sub.cons hl34 (Sub.cons hl35 (Sub.cons hl36 (Sub.cons hl37 (Sub.cons hl38 (Sub.cons hl39 (Sub.cons hl40 (Sub.cons hl41 (Sub.cons hl42 (Sub.cons hl43 (Sub.cons hl44 (Sub.cons hl45 (Sub.cons hl46 (Sub.cons hl47 (Sub.cons hl48 (Sub.cons hl49 (Sub.cons hl50 (Sub.cons hl51 (Sub.cons hl52 (Sub.nil _)))))))))))))))))))) ?_
            have hf53z := Ex.size hf53
            have hbg54 : p_more.length ≤ 1073741824 := o2
            rcases Nat.lt_or_ge k23 p_more.length with hlt55 | hlt55
            · skip
              refine CW.seq ?_
              refine CW.seq ?_
              refine CW.region ?_
              refine SeqR.d1 rfl rfl rfl (yl_move rfl rfl ?_)
              refine SeqR.d1 rfl rfl rfl (yl_move rfl rfl ?_)
              refine SeqR.d1 rfl rfl rfl (yl_slen Try.un9 (a := p_more) rfl rfl ?_)
              refine SeqR.d1 rfl rfl rfl (yl_lss rfl rfl rfl ?_)
              refine SeqR.done ?_
              refine tn ?_
              refine CW.cond_t rfl (lt_t hlt55) ?_
              refine CW.skip ?_
              refine tn ?_
              refine CW.seq ?_
              refine CW.block ?_
              refine bcase (x24) (fun hb56 => ?_) (fun hb56 => ?_)
              · skip
                refine CW.drawsI 11 (vgetI [DetI (.bool (x24)), DetI (.bool (x24)), DetI (undef), DetI (undef), DetI (undef), DetI (undef), DetI (undef), DetI (undef), DetI (undef), DetI (.bool (true)), DetI (.bool (true))]) Try.follows rfl rfl rfl rfl rfl rfl (vgetI_stable ⟨StableI.det _, StableI.det _, StableI.det _, StableI.det _, StableI.det _, StableI.det _, StableI.det _, StableI.det _, StableI.det _, StableI.det _, StableI.det _, trivial⟩) ⟨?_, ?_, ?_, ?_, ?_, ?_, ?_, ?_, ?_, ?_, ?_, trivial⟩ ?_
                · intro L57 w58 hi59
                  have hE60 := hi59.ex
                  have hE60z := Ex.size hE60
                  have hx61 := hi59.old 6 _ rfl rfl
                  exact OpR.op' rfl (Yl.sameI (yl_move rfl hx61 ⟨fun _ _ => rfl, rfl⟩))
                · intro L62 w63 hi64
                  have hE65 := hi64.ex
                  have hE65z := Ex.size hE65
                  obtain ⟨_, _, _, hx66, -, -, -, rfl⟩ := hi64.dep 0 42 rfl rfl
                  exact OpR.op' rfl (Yl.sameI (yl_move rfl hx66 ⟨fun _ _ => rfl, rfl⟩))
                · intro L67 w68 hi69
                  have hE70 := hi69.ex
                  have hE70z := Ex.size hE70
                  obtain ⟨_, _, _, hx71, -, -, -, rfl⟩ := hi69.dep 1 43 rfl rfl
                  exact OpR.skip rfl rfl hx71 hb56 ⟨rfl, Ex.refl _⟩
                · intro L72 w73 hi74
                  have hE75 := hi74.ex
                  have hE75z := Ex.size hE75
                  obtain ⟨_, _, _, hx76, -, -, -, rfl⟩ := hi74.dep 1 43 rfl rfl
                  exact OpR.skip rfl rfl hx76 hb56 ⟨rfl, Ex.refl _⟩
                · intro L77 w78 hi79
                  have hE80 := hi79.ex
                  have hE80z := Ex.size hE80
                  obtain ⟨_, _, _, hx81, -, -, -, rfl⟩ := hi79.dep 1 43 rfl rfl
                  exact OpR.skip rfl rfl hx81 hb56 ⟨rfl, Ex.refl _⟩
                · intro L82 w83 hi84
                  have hE85 := hi84.ex
                  have hE85z := Ex.size hE85
                  obtain ⟨_, _, _, hx86, -, -, -, rfl⟩ := hi84.dep 1 43 rfl rfl
                  exact OpR.skip rfl rfl hx86 hb56 ⟨rfl, Ex.refl _⟩
                · intro L87 w88 hi89
                  have hE90 := hi89.ex
                  have hE90z := Ex.size hE90
                  obtain ⟨_, _, _, hx91, -, -, -, rfl⟩ := hi89.dep 1 43 rfl rfl
                  exact OpR.skip rfl rfl hx91 hb56 ⟨rfl, Ex.refl _⟩
                · intro L92 w93 hi94
                  have hE95 := hi94.ex
                  have hE95z := Ex.size hE95
                  obtain ⟨_, _, _, hx96, -, -, -, rfl⟩ := hi94.dep 1 43 rfl rfl
                  exact OpR.skip rfl rfl hx96 hb56 ⟨rfl, Ex.refl _⟩
                · intro L97 w98 hi99
                  have hE100 := hi99.ex
                  have hE100z := Ex.size hE100
                  obtain ⟨_, _, _, hx101, -, -, -, rfl⟩ := hi99.dep 1 43 rfl rfl
                  exact OpR.skip rfl rfl hx101 hb56 ⟨rfl, Ex.refl _⟩
                · intro L102 w103 hi104
                  have hE105 := hi104.ex
                  have hE105z := Ex.size hE105
                  obtain ⟨_, _, _, hx106, -, -, -, rfl⟩ := hi104.dep 8 50 rfl rfl
                  obtain ⟨_, _, _, hx107, -, -, -, rfl⟩ := hi104.dep 1 43 rfl rfl
                  exact OpR.op' rfl (Yl.sameI (yl_pick_t rfl hx107 hb56 rfl ⟨fun _ _ => rfl, rfl⟩))
                · intro L108 w109 hi110
                  have hE111 := hi110.ex
                  have hE111z := Ex.size hE111
                  obtain ⟨_, _, _, hx112, -, -, -, rfl⟩ := hi110.dep 9 51 rfl rfl
                  exact OpR.op' rfl (Yl.sameI (yl_assign rfl hx112 ⟨fun _ _ => rfl, rfl⟩))
                · intro fl116 fh117 L113 w114 hp115
                  have hE118 := hp115.ex
                  have hE118z := Ex.size hE118
                  have hx119 := hp115.old 0 _ rfl rfl
                  have hx120 := hp115.old 1 _ rfl rfl
                  have hx121 := hp115.old 5 _ rfl rfl
                  have hx122 := hp115.old 7 _ rfl rfl
                  have hx123 := hp115.old 19 _ rfl rfl
                  have hx124 := hp115.old 20 _ rfl rfl
                  have hx125 := hp115.old 21 _ rfl rfl
                  have hx126 := hp115.old 22 _ rfl rfl
                  have hx127 := hp115.old 25 _ rfl rfl
                  have hx128 := hp115.old 26 _ rfl rfl
                  have hx129 := hp115.old 27 _ rfl rfl
                  have hx130 := hp115.old 28 _ rfl rfl
                  have hx131 := hp115.old 29 _ rfl rfl
                  have hx132 := hp115.old 30 _ rfl rfl
                  have hx133 := hp115.old 31 _ rfl rfl
                  have hx134 := hp115.old 32 _ rfl rfl
                  have hx135 := hp115.old 33 _ rfl rfl
                  have hx136 := hp115.old 34 _ rfl rfl
                  obtain ⟨_, hx137, rfl⟩ := hp115.new 2 44 rfl rfl
                  obtain ⟨_, hx138, rfl⟩ := hp115.new 3 45 rfl rfl
                  obtain ⟨_, hx139, rfl⟩ := hp115.new 4 46 rfl rfl
                  obtain ⟨_, hx140, rfl⟩ := hp115.new 5 47 rfl rfl
                  obtain ⟨_, hx141, rfl⟩ := hp115.new 6 48 rfl rfl
                  obtain ⟨_, hx142, rfl⟩ := hp115.new 7 49 rfl rfl
                  obtain ⟨_, hx143, rfl⟩ := hp115.new 8 50 rfl rfl
                  obtain ⟨_, hx144, rfl⟩ := hp115.new 10 6 rfl rfl
                  refine SeqR.done ?_
                  refine bn ?_
                  refine tn ?_
                  refine CW.sub (Sub.cons (d := 0) hx119 (Sub.cons (d := 1) hx120 (Sub.cons (d := 5) hx121 (Sub.cons (d := 6) hx144 (Sub.cons (d := 7) hx122 (Sub.cons (d := 19) hx123 (Sub.cons (d := 20) hx124 (Sub.cons (d := 21) hx125 (Sub.cons (d := 22) hx126 (Sub.cons (d := 25) hx127 (Sub.cons (d := 26) hx128 (Sub.cons (d := 27) hx129 (Sub.cons (d := 28) hx130 (Sub.cons (d := 29) hx131 (Sub.cons (d := 30) hx132 (Sub.cons (d := 31) hx133 (Sub.cons (d := 32) hx134 (Sub.cons (d := 33) hx135 (Sub.cons (d := 34) hx136 (Sub.cons (d := 44) hx137 (Sub.cons (d := 45) hx138 (Sub.cons (d := 46) hx139 (Sub.cons (d := 47) hx140 (Sub.cons (d := 48) hx141 (Sub.cons (d := 49) hx142 (Sub.cons (d := 50) hx143 (Sub.nil _))))))))))))))))))))))))))) ?_
                  refine CW.region ?_
                  refine SeqR.d1 rfl rfl rfl (yl_move rfl rfl ?_)
                  refine SeqR.d1 rfl rfl rfl (yl_inc rfl rfl rfl (by omega) ?_)
                  refine SeqR.d1 rfl rfl rfl (yl_assign rfl rfl ?_)
                  refine SeqR.done ?_
                  refine tn ?_
                  have hB145 : B_s_l3Bytes_1 p_s p_more k5 k23 (x24) = .cont (true) := by simp only [B_s_l3Bytes_1, hb21, hb22, hb56, cond_true, cond_false, loopE_done, loopE_ret]
                  have q146 := Ex.trans hf53 hE118
                  exact ⟨p_more.length - (k23 + 1), by omega, k23 + 1, true, rfl, hlt55, (by omega), rfl, rfl, rfl, rfl, rfl, rfl, rfl, rfl, rfl, rfl, rfl, rfl, rfl, rfl, rfl, rfl, rfl, rfl, rfl, q146, (loopM.cont hlt55 hB145).symm.trans hI32⟩
              · skip
                refine CW.drawsI 11 (vgetI [DetI (.bool (x24)), DetI (.bool (x24)), DetI (.string (bs (p_s))), DetI (.int .i64 ((k5 : Int))), DetI (.int .u8 (((p_s.getD k5 0).toNat : Int))), DetI (.string (bs (p_more))), DetI (.int .i64 ((k23 : Int))), DetI (.int .u8 (((p_more.getD k23 0).toNat : Int))), DetI (.bool (decide (((p_s.getD k5 0).toNat : Int) = ((p_more.getD k23 0).toNat : Int)))), DetI (.bool (decide (((p_s.getD k5 0).toNat : Int) = ((p_more.getD k23 0).toNat : Int)))), DetI (.bool (decide (((p_s.getD k5 0).toNat : Int) = ((p_more.getD k23 0).toNat : Int))))]) Try.follows rfl rfl rfl rfl rfl rfl (vgetI_stable ⟨StableI.det _, StableI.det _, StableI.det _, StableI.det _, StableI.det _, StableI.det _, StableI.det _, StableI.det _, StableI.det _, StableI.det _, StableI.det _, trivial⟩) ⟨?_, ?_, ?_, ?_, ?_, ?_, ?_, ?_, ?_, ?_, ?_, trivial⟩ ?_
                · intro L147 w148 hi149
                  have hE150 := hi149.ex
                  have hE150z := Ex.size hE150
                  have hx151 := hi149.old 6 _ rfl rfl
                  exact OpR.op' rfl (Yl.sameI (yl_move rfl hx151 ⟨fun _ _ => rfl, rfl⟩))
                · intro L152 w153 hi154
                  have hE155 := hi154.ex
                  have hE155z := Ex.size hE155
                  obtain ⟨_, _, _, hx156, -, -, -, rfl⟩ := hi154.dep 0 42 rfl rfl
                  exact OpR.op' rfl (Yl.sameI (yl_move rfl hx156 ⟨fun _ _ => rfl, rfl⟩))
                · intro L157 w158 hi159
                  have hE160 := hi159.ex
                  have hE160z := Ex.size hE160
                  obtain ⟨_, _, _, hx161, -, -, -, rfl⟩ := hi159.dep 1 43 rfl rfl
                  have hx162 := hi159.old 0 _ rfl rfl
                  exact OpR.want rfl rfl hx161 hb56 (Yl.sameI (yl_move rfl hx162 ⟨fun _ _ => rfl, rfl⟩))
                · intro L163 w164 hi165
                  have hE166 := hi165.ex
                  have hE166z := Ex.size hE166
                  obtain ⟨_, _, _, hx167, -, -, -, rfl⟩ := hi165.dep 1 43 rfl rfl
                  have hx168 := hi165.old 5 _ rfl rfl
                  exact OpR.want rfl rfl hx167 hb56 (Yl.sameI (yl_move rfl hx168 ⟨fun _ _ => rfl, rfl⟩))
                · intro L169 w170 hi171
                  have hE172 := hi171.ex
                  have hE172z := Ex.size hE172
                  obtain ⟨_, _, _, hx173, -, -, -, rfl⟩ := hi171.dep 1 43 rfl rfl
                  obtain ⟨_, _, _, hx174, -, -, -, rfl⟩ := hi171.dep 2 44 rfl rfl
                  obtain ⟨_, _, _, hx175, -, -, -, rfl⟩ := hi171.dep 3 45 rfl rfl
                  exact OpR.want rfl rfl hx173 hb56 (Yl.sameI (yl_sindexN Try.un9 (a := p_s) rfl hx174 hx175 (by first | omega | assumption | (simp only [IntKind.wrap_i64] at *; omega)) ⟨fun _ _ => rfl, rfl⟩))
                · intro L176 w177 hi178
                  have hE179 := hi178.ex
                  have hE179z := Ex.size hE179
                  obtain ⟨_, _, _, hx180, -, -, -, rfl⟩ := hi178.dep 1 43 rfl rfl
                  have hx181 := hi178.old 1 _ rfl rfl
                  exact OpR.want rfl rfl hx180 hb56 (Yl.sameI (yl_move rfl hx181 ⟨fun _ _ => rfl, rfl⟩))
                · intro L182 w183 hi184
                  have hE185 := hi184.ex
                  have hE185z := Ex.size hE185
                  obtain ⟨_, _, _, hx186, -, -, -, rfl⟩ := hi184.dep 1 43 rfl rfl
                  have hx187 := hi184.old 7 _ rfl rfl
                  exact OpR.want rfl rfl hx186 hb56 (Yl.sameI (yl_move rfl hx187 ⟨fun _ _ => rfl, rfl⟩))
                · intro L188 w189 hi190
                  have hE191 := hi190.ex
                  have hE191z := Ex.size hE191
                  obtain ⟨_, _, _, hx192, -, -, -, rfl⟩ := hi190.dep 1 43 rfl rfl
                  obtain ⟨_, _, _, hx193, -, -, -, rfl⟩ := hi190.dep 5 47 rfl rfl
                  obtain ⟨_, _, _, hx194, -, -, -, rfl⟩ := hi190.dep 6 48 rfl rfl
                  exact OpR.want rfl rfl hx192 hb56 (Yl.sameI (yl_sindexN Try.un9 (a := p_more) rfl hx193 hx194 (by first | omega | assumption | (simp only [IntKind.wrap_i64] at *; omega)) ⟨fun _ _ => rfl, rfl⟩))
                · intro L195 w196 hi197
                  have hE198 := hi197.ex
                  have hE198z := Ex.size hE198
                  obtain ⟨_, _, _, hx199, -, -, -, rfl⟩ := hi197.dep 1 43 rfl rfl
                  obtain ⟨_, _, _, hx200, -, -, -, rfl⟩ := hi197.dep 4 46 rfl rfl
                  obtain ⟨_, _, _, hx201, -, -, -, rfl⟩ := hi197.dep 7 49 rfl rfl
                  exact OpR.want rfl rfl hx199 hb56 (Yl.sameI (yl_eql rfl hx200 hx201 ⟨fun _ _ => rfl, rfl⟩))
                · intro L202 w203 hi204
                  have hE205 := hi204.ex
                  have hE205z := Ex.size hE205
                  obtain ⟨_, _, _, hx206, -, -, -, rfl⟩ := hi204.dep 8 50 rfl rfl
                  obtain ⟨_, _, _, hx207, -, -, -, rfl⟩ := hi204.dep 1 43 rfl rfl
                  exact OpR.op' rfl (Yl.sameI (yl_pick_f rfl hx207 hb56 hx206 ⟨fun _ _ => rfl, rfl⟩))
                · intro L208 w209 hi210
                  have hE211 := hi210.ex
                  have hE211z := Ex.size hE211
                  obtain ⟨_, _, _, hx212, -, -, -, rfl⟩ := hi210.dep 9 51 rfl rfl
                  exact OpR.op' rfl (Yl.sameI (yl_assign rfl hx212 ⟨fun _ _ => rfl, rfl⟩))
                · intro fl216 fh217 L213 w214 hp215
                  have hE218 := hp215.ex
                  have hE218z := Ex.size hE218
                  have hx219 := hp215.old 0 _ rfl rfl
                  have hx220 := hp215.old 1 _ rfl rfl
                  have hx221 := hp215.old 5 _ rfl rfl
                  have hx222 := hp215.old 7 _ rfl rfl
                  have hx223 := hp215.old 19 _ rfl rfl
                  have hx224 := hp215.old 20 _ rfl rfl
                  have hx225 := hp215.old 21 _ rfl rfl
                  have hx226 := hp215.old 22 _ rfl rfl
                  have hx227 := hp215.old 25 _ rfl rfl
                  have hx228 := hp215.old 26 _ rfl rfl
                  have hx229 := hp215.old 27 _ rfl rfl
                  have hx230 := hp215.old 28 _ rfl rfl
                  have hx231 := hp215.old 29 _ rfl rfl
                  have hx232 := hp215.old 30 _ rfl rfl
                  have hx233 := hp215.old 31 _ rfl rfl
                  have hx234 := hp215.old 32 _ rfl rfl
                  have hx235 := hp215.old 33 _ rfl rfl
                  have hx236 := hp215.old 34 _ rfl rfl
                  obtain ⟨_, hx237, rfl⟩ := hp215.new 2 44 rfl rfl
                  obtain ⟨_, hx238, rfl⟩ := hp215.new 3 45 rfl rfl
                  obtain ⟨_, hx239, rfl⟩ := hp215.new 4 46 rfl rfl
                  obtain ⟨_, hx240, rfl⟩ := hp215.new 5 47 rfl rfl
                  obtain ⟨_, hx241, rfl⟩ := hp215.new 6 48 rfl rfl
                  obtain ⟨_, hx242, rfl⟩ := hp215.new 7 49 rfl rfl
                  obtain ⟨_, hx243, rfl⟩ := hp215.new 8 50 rfl rfl
                  obtain ⟨_, hx244, rfl⟩ := hp215.new 10 6 rfl rfl
                  refine SeqR.done ?_
                  refine bn ?_
                  refine tn ?_
                  refine CW.sub (Sub.cons (d := 0) hx219 (Sub.cons (d := 1) hx220 (Sub.cons (d := 5) hx221 (Sub.cons (d := 6) hx244 (Sub.cons (d := 7) hx222 (Sub.cons (d := 19) hx223 (Sub.cons (d := 20) hx224 (Sub.cons (d := 21) hx225 (Sub.cons (d := 22) hx226 (Sub.cons (d := 25) hx227 (Sub.cons (d := 26) hx228 (Sub.cons (d := 27) hx229 (Sub.cons (d := 28) hx230 (Sub.cons (d := 29) hx231 (Sub.cons (d := 30) hx232 (Sub.cons (d := 31) hx233 (Sub.cons (d := 32) hx234 (Sub.cons (d := 33) hx235 (Sub.cons (d := 34) hx236 (Sub.cons (d := 44) hx237 (Sub.cons (d := 45) hx238 (Sub.cons (d := 46) hx239 (Sub.cons (d := 47) hx240 (Sub.cons (d := 48) hx241 (Sub.cons (d := 49) hx242 (Sub.cons (d := 50) hx243 (Sub.nil _))))))))))))))))))))))))))) ?_
                  refine CW.region ?_
                  refine SeqR.d1 rfl rfl rfl (yl_move rfl rfl ?_)
                  refine SeqR.d1 rfl rfl rfl (yl_inc rfl rfl rfl (by omega) ?_)
                  refine SeqR.d1 rfl rfl rfl (yl_assign rfl rfl ?_)
                  refine SeqR.done ?_
                  refine tn ?_
                  have hB245 : B_s_l3Bytes_1 p_s p_more k5 k23 (x24) = .cont (decide (((p_s.getD k5 0).toNat : Int) = ((p_more.getD k23 0).toNat : Int))) := by simp only [B_s_l3Bytes_1, hb21, hb22, hb56, cond_true, cond_false, loopE_done, loopE_ret]
                  have q246 := Ex.trans hf53 hE218
                  exact ⟨p_more.length - (k23 + 1), by omega, k23 + 1, decide (((p_s.getD k5 0).toNat : Int) = ((p_more.getD k23 0).toNat : Int)), rfl, hlt55, (by omega), rfl, rfl, rfl, rfl, rfl, rfl, rfl, rfl, rfl, rfl, rfl, rfl, rfl, rfl, rfl, rfl, rfl, rfl, rfl, q246, (loopM.cont hlt55 hB245).symm.trans hI32⟩
            · skip
              refine CW.seq ?_
              refine CW.seq ?_
              refine CW.region ?_
              refine SeqR.d1 rfl rfl rfl (yl_move rfl rfl ?_)
              refine SeqR.d1 rfl rfl rfl (yl_move rfl rfl ?_)
              refine SeqR.d1 rfl rfl rfl (yl_slen Try.un9 (a := p_more) rfl rfl ?_)
              refine SeqR.d1 rfl rfl rfl (yl_lss rfl rfl rfl ?_)
              refine SeqR.done ?_
              refine tn ?_
              refine CW.cond_f rfl (lt_f hlt55) ?_
              refine CW.exit ?_
              refine tx ?_
              refine tx ?_
              have hL247 : loopM (B_s_l3Bytes_1 p_s p_more k5) (p_more.length - 0) 0 (true) = .done (x24) := hI32.symm.trans (loopM.stop hlt55)
              refine bx ?_
              refine tn ?_
              refine CW.seq ?_
              refine CW.region ?_
              refine SeqR.d1 rfl rfl rfl (yl_move rfl rfl ?_)
              refine SeqR.d1 rfl rfl rfl (yl_not rfl rfl ?_)
              refine SeqR.done ?_
              refine tn ?_
              refine bcase (x24) (fun hb248 => ?_) (fun hb248 => ?_)
              · skip
                refine CW.cond_f rfl (not_t hb248) ?_
                refine CW.skip ?_
                refine bn ?_
                refine tn ?_
                refine CW.region ?_
                refine SeqR.d1 rfl rfl rfl (yl_move rfl rfl ?_)
                refine SeqR.d1 rfl rfl rfl (yl_inc rfl rfl rfl (by omega) ?_)
                refine SeqR.d1 rfl rfl rfl (yl_assign rfl rfl ?_)
                refine SeqR.done ?_
                refine tn ?_
                have hB249 : B_s_l3Bytes_0 p_s p_more k5 () = .cont () := by simp only [B_s_l3Bytes_0, hb21, hb22, hb248, hL247, cond_true, cond_false, loopE_done, loopE_ret]
                exact ⟨p_s.length - (k5 + 1), by omega, k5 + 1, rfl, hlt20, (by omega), rfl, rfl, rfl, hf53, (loopM.cont hlt20 hB249).symm.trans hI13⟩
              · skip
                refine CW.cond_t rfl (not_f hb248) ?_
                refine CW.seq ?_
                refine CW.region ?_
                refine SeqR.d1 rfl rfl rfl (yl_assign rfl rfl ?_)
                refine SeqR.done ?_
                refine tn ?_
                refine CW.ret ?_
                refine br ?_
                refine tr ?_
                refine tr ?_
                have hB251 : B_s_l3Bytes_0 p_s p_more k5 () = .ret false := by simp only [B_s_l3Bytes_0, hb21, hb22, hb248, hL247, cond_true, cond_false, loopE_done, loopE_ret]
                have hL250 : loopM (B_s_l3Bytes_0 p_s p_more) (p_s.length - 0) 0 () = .ret false := hI13.symm.trans (loopM.ret hlt20 hB251)
                refine br ?_
                refine tr ?_
                refine rr rfl (.cons rfl .nil) ?_
                have hM252 : (s_l3Bytes p_s p_more) = (false) := by simp only [s_l3Bytes, hb21, hb22, hb248, hL247, hL250, cond_true, cond_false, loopE_done, loopE_ret]
                rw [hM252]
                exact ⟨rfl, hf53⟩
        · have hb22p := dec_f hb22
          refine SeqR.y rfl rfl rfl rfl rfl hb22 (yl_move rfl rfl ?_)
          refine SeqR.y rfl rfl rfl rfl rfl hb22 (yl_move rfl rfl ?_)
          refine SeqR.y rfl rfl rfl rfl rfl hb22 (yl_sindexN Try.un9 (a := p_s) rfl rfl rfl (by first | omega | assumption | (simp only [IntKind.wrap_i64] at *; omega)) ?_)
          refine SeqR.y rfl rfl rfl rfl rfl hb22 (yl_geq rfl rfl rfl ?_)
          refine SeqR.y rfl rfl rfl rfl rfl hb22 (yl_move rfl rfl ?_)
          refine bcase (decide (48 ≤ ((p_s.getD k5 0).toNat : Int))) (fun hb253 => ?_) (fun hb253 => ?_)
          · have hb253p := dec_t hb253
            refine SeqR.y rfl rfl rfl rfl rfl hb253 (yl_move rfl rfl ?_)
            refine SeqR.y rfl rfl rfl rfl rfl hb253 (yl_move rfl rfl ?_)
            refine SeqR.y rfl rfl rfl rfl rfl hb253 (yl_sindexN Try.un9 (a := p_s) rfl rfl rfl (by first | omega | assumption | (simp only [IntKind.wrap_i64] at *; omega)) ?_)
            refine SeqR.y rfl rfl rfl rfl rfl hb253 (yl_leq rfl rfl rfl ?_)
            refine SeqR.y rfl rfl rfl rfl rfl hb22 (yl_pick_t rfl rfl hb253 rfl ?_)
            refine SeqR.d1 rfl rfl rfl (yl_pick_f rfl rfl hb22 rfl ?_)
            refine SeqR.d1 rfl rfl rfl (yl_assign rfl rfl ?_)
            refine SeqR.done ?_
            refine tn ?_
            refine CW.seq ?_
            refine CW.seq ?_
            refine CW.region ?_
            refine SeqR.d1 rfl rfl rfl (yl_assign rfl rfl ?_)
            refine SeqR.done ?_
            refine tn ?_
            refine CW.block ?_
            refine CW.loop (fun m256 L257 w258 => ∃ (k254 : Nat) (x255 : Bool), m256 = p_more.length - k254 ∧ k254 ≤ p_more.length ∧ w11.heap.size ≤ w258.heap.size ∧ lkp L257 0 = some (.string (bs (p_s))) ∧ lkp L257 1 = some (.string (bs (p_more))) ∧ lkp L257 5 = some (.int .i64 ((k5 : Int))) ∧ lkp L257 6 = some (.bool (x255)) ∧ lkp L257 7 = some (.int .i64 ((k254 : Int))) ∧ lkp L257 19 = some (.string (bs (p_s))) ∧ lkp L257 20 = some (.int .i64 ((k5 : Int))) ∧ lkp L257 21 = some (.int .u8 (((p_s.getD k5 0).toNat : Int))) ∧ lkp L257 22 = some (.bool (decide (((p_s.getD k5 0).toNat : Int) ≤ 122))) ∧ lkp L257 25 = some (.string (bs (p_s))) ∧ lkp L257 26 = some (.int .i64 ((k5 : Int))) ∧ lkp L257 27 = some (.int .u8 (((p_s.getD k5 0).toNat : Int))) ∧ lkp L257 28 = some (.bool (decide (48 ≤ ((p_s.getD k5 0).toNat : Int)))) ∧ lkp L257 29 = some (.bool (decide (48 ≤ ((p_s.getD k5 0).toNat : Int)))) ∧ lkp L257 30 = some (.string (bs (p_s))) ∧ lkp L257 31 = some (.int .i64 ((k5 : Int))) ∧ lkp L257 32 = some (.int .u8 (((p_s.getD k5 0).toNat : Int))) ∧ lkp L257 33 = some (.bool (decide (((p_s.getD k5 0).toNat : Int) ≤ 57))) ∧ lkp L257 34 = some (.bool (decide (((p_s.getD k5 0).toNat : Int) ≤ 57))) ∧ Ex w w258 ∧ loopM (B_s_l3Bytes_1 p_s p_more k5) (p_more.length - k254) k254 (x255) = loopM (B_s_l3Bytes_1 p_s p_more k5) (p_more.length - 0) 0 (decide (((p_s.getD k5 0).toNat : Int) ≤ 57))) (p_more.length - 0) ?_ ?_
            · exact ⟨0, decide (((p_s.getD k5 0).toNat : Int) ≤ 57), rfl, (by omega), Nat.le_refl _, rfl, rfl, rfl, rfl, rfl, rfl, rfl, rfl, rfl, rfl, rfl, rfl, rfl, rfl, rfl, rfl, rfl, rfl, rfl, hf18, rfl⟩
            · rintro m259 L260 w261 ⟨k254, x255, rfl, hk262, hsz264, hl265, hl266, hl267, hl268, hl269, hl270, hl271, hl272, hl273, hl274, hl275, hl276, hl277, hl278, hl279, hl280, hl281, hl282, hl283, hf284, hI263⟩
              refine CW.sub (Sub.cons hl265 (Sub.cons hl266 (Sub.cons hl267 (Sub.cons hl268 (Sub.cons hl269 (Sub.cons hl270 (Sub.cons hl271 (Sub.cons hl272 (Sub.cons hl273 (Sub.cons hl274 (Sub.cons hl275 (Sub.cons hl276 (Sub.cons hl277 (Sub.cons hl278 (Sub.cons hl279 (Sub.cons hl280 (Sub.cons hl281 (Sub.cons hl282 (Sub.cons hl283 (Sub.nil _)))))))))))))))))))) ?_
              have hf284z := Ex.size hf284
              have hbg285 : p_more.length ≤ 1073741824 := o2
              rcases Nat.lt_or_ge k254 p_more.length with hlt286 | hlt286
              · skip
                refine CW.seq ?_
                refine CW.seq ?_
                refine CW.region ?_
                refine SeqR.d1 rfl rfl rfl (yl_move rfl rfl ?_)
                refine SeqR.d1 rfl rfl rfl (yl_move rfl rfl ?_)
                refine SeqR.d1 rfl rfl rfl (yl_slen Try.un9 (a := p_more) rfl rfl ?_)
                refine SeqR.d1 rfl rfl rfl (yl_lss rfl rfl rfl ?_)
                refine SeqR.done ?_
                refine tn ?_
                refine CW.cond_t rfl (lt_t hlt286) ?_
                refine CW.skip ?_
                refine tn ?_
                refine CW.seq ?_
                refine CW.block ?_
                refine bcase (x255) (fun hb287 => ?_) (fun hb287 => ?_)
                · skip
                  refine CW.drawsI 11 (vgetI [DetI (.bool (x255)), DetI (.bool (x255)), DetI (undef), DetI (undef), DetI (undef), DetI (undef), DetI (undef), DetI (undef), DetI (undef), DetI (.bool (true)), DetI (.bool (true))]) Try.follows rfl rfl rfl rfl rfl rfl (vgetI_stable ⟨StableI.det _, StableI.det _, StableI.det _, StableI.det _, StableI.det _, StableI.det _, StableI.det _, StableI.det _, StableI.det _, StableI.det _, StableI.det _, trivial⟩) ⟨?_, ?_, ?_, ?_, ?_, ?_, ?_, ?_, ?_, ?_, ?_, trivial⟩ ?_
                  · intro L288 w289 hi290
                    have hE291 := hi290.ex
                    have hE291z := Ex.size hE291
                    have hx292 := hi290.old 6 _ rfl rfl
                    exact OpR.op' rfl (Yl.sameI (yl_move rfl hx292 ⟨fun _ _ => rfl, rfl⟩))
                  · intro L293 w294 hi295
                    have hE296 := hi295.ex
                    have hE296z := Ex.size hE296
                    obtain ⟨_, _, _, hx297, -, -, -, rfl⟩ := hi295.dep 0 42 rfl rfl
                    exact OpR.op' rfl (Yl.sameI (yl_move rfl hx297 ⟨fun _ _ => rfl, rfl⟩))
                  · intro L298 w299 hi300
                    have hE301 := hi300.ex
                    have hE301z := Ex.size hE301
                    obtain ⟨_, _, _, hx302, -, -, -, rfl⟩ := hi300.dep 1 43 rfl rfl
                    exact OpR.skip rfl rfl hx302 hb287 ⟨rfl, Ex.refl _⟩
                  · intro L303 w304 hi305
                    have hE306 := hi305.ex
                    have hE306z := Ex.size hE306
                    obtain ⟨_, _, _, hx307, -, -, -, rfl⟩ := hi305.dep 1 43 rfl rfl
                    exact OpR.skip rfl rfl hx307 hb287 ⟨rfl, Ex.refl _⟩
                  · intro L308 w309 hi310
                    have hE311 := hi310.ex
                    have hE311z := Ex.size hE311
                    obtain ⟨_, _, _, hx312, -, -, -, rfl⟩ := hi310.dep 1 43 rfl rfl
                    exact OpR.skip rfl rfl hx312 hb287 ⟨rfl, Ex.refl _⟩
                  · intro L313 w314 hi315
                    have hE316 := hi315.ex
                    have hE316z := Ex.size hE316
                    obtain ⟨_, _, _, hx317, -, -, -, rfl⟩ := hi315.dep 1 43 rfl rfl
                    exact OpR.skip rfl rfl hx317 hb287 ⟨rfl, Ex.refl _⟩
                  · intro L318 w319 hi320
                    have hE321 := hi320.ex
                    have hE321z := Ex.size hE321
                    obtain ⟨_, _, _, hx322, -, -, -, rfl⟩ := hi320.dep 1 43 rfl rfl
                    exact OpR.skip rfl rfl hx322 hb287 ⟨rfl, Ex.refl _⟩
                  · intro L323 w324 hi325
                    have hE326 := hi325.ex
                    have hE326z := Ex.size hE326
                    obtain ⟨_, _, _, hx327, -, -, -, rfl⟩ := hi325.dep 1 43 rfl rfl
                    exact OpR.skip rfl rfl hx327 hb287 ⟨rfl, Ex.refl _⟩
                  · intro L328 w329 hi330
                    have hE331 := hi330.ex
                    have hE331z := Ex.size hE331
                    obtain ⟨_, _, _, hx332, -, -, -, rfl⟩ := hi330.dep 1 43 rfl rfl
                    exact OpR.skip rfl rfl hx332 hb287 ⟨rfl, Ex.refl _⟩
                  · intro L333 w334 hi335
                    have hE336 := hi335.ex
                    have hE336z := Ex.size hE336
                    obtain ⟨_, _, _, hx337, -, -, -, rfl⟩ := hi335.dep 8 50 rfl rfl
                    obtain ⟨_, _, _, hx338, -, -, -, rfl⟩ := hi335.dep 1 43 rfl rfl
                    exact OpR.op' rfl (Yl.sameI (yl_pick_t rfl hx338 hb287 rfl ⟨fun _ _ => rfl, rfl⟩))
                  · intro L339 w340 hi341
                    have hE342 := hi341.ex
                    have hE342z := Ex.size hE342
                    obtain ⟨_, _, _, hx343, -, -, -, rfl⟩ := hi341.dep 9 51 rfl rfl
                    exact OpR.op' rfl (Yl.sameI (yl_assign rfl hx343 ⟨fun _ _ => rfl, rfl⟩))
                  · intro fl347 fh348 L344 w345 hp346
                    have hE349 := hp346.ex
                    have hE349z := Ex.size hE349
                    have hx350 := hp346.old 0 _ rfl rfl
                    have hx351 := hp346.old 1 _ rfl rfl
                    have hx352 := hp346.old 5 _ rfl rfl
                    have hx353 := hp346.old 7 _ rfl rfl
                    have hx354 := hp346.old 19 _ rfl rfl
                    have hx355 := hp346.old 20 _ rfl rfl
                    have hx356 := hp346.old 21 _ rfl rfl
                    have hx357 := hp346.old 22 _ rfl rfl
                    have hx358 := hp346.old 25 _ rfl rfl
                    have hx359 := hp346.old 26 _ rfl rfl
                    have hx360 := hp346.old 27 _ rfl rfl
                    have hx361 := hp346.old 28 _ rfl rfl
                    have hx362 := hp346.old 29 _ rfl rfl
                    have hx363 := hp346.old 30 _ rfl rfl
                    have hx364 := hp346.old 31 _ rfl rfl
                    have hx365 := hp346.old 32 _ rfl rfl
                    have hx366 := hp346.old 33 _ rfl rfl
                    have hx367 := hp346.old 34 _ rfl rfl
                    obtain ⟨_, hx368, rfl⟩ := hp346.new 2 44 rfl rfl
                    obtain ⟨_, hx369, rfl⟩ := hp346.new 3 45 rfl rfl
                    obtain ⟨_, hx370, rfl⟩ := hp346.new 4 46 rfl rfl
                    obtain ⟨_, hx371, rfl⟩ := hp346.new 5 47 rfl rfl
                    obtain ⟨_, hx372, rfl⟩ := hp346.new 6 48 rfl rfl
                    obtain ⟨_, hx373, rfl⟩ := hp346.new 7 49 rfl rfl
                    obtain ⟨_, hx374, rfl⟩ := hp346.new 8 50 rfl rfl
                    obtain ⟨_, hx375, rfl⟩ := hp346.new 10 6 rfl rfl
                    refine SeqR.done ?_
                    refine bn ?_
                    refine tn ?_
                    refine CW.sub (Sub.cons (d := 0) hx350 (Sub.cons (d := 1) hx351 (Sub.cons (d := 5) hx352 (Sub.cons (d := 6) hx375 (Sub.cons (d := 7) hx353 (Sub.cons (d := 19) hx354 (Sub.cons (d := 20) hx355 (Sub.cons (d := 21) hx356 (Sub.cons (d := 22) hx357 (Sub.cons (d := 25) hx358 (Sub.cons (d := 26) hx359 (Sub.cons (d := 27) hx360 (Sub.cons (d := 28) hx361 (Sub.cons (d := 29) hx362 (Sub.cons (d := 30) hx363 (Sub.cons (d := 31) hx364 (Sub.cons (d := 32) hx365 (Sub.cons (d := 33) hx366 (Sub.cons (d := 34) hx367 (Sub.cons (d := 44) hx368 (Sub.cons (d := 45) hx369 (Sub.cons (d := 46) hx370 (Sub.cons (d := 47) hx371 (Sub.cons (d := 48) hx372 (Sub.cons (d := 49) hx373 (Sub.cons (d := 50) hx374 (Sub.nil _))))))))))))))))))))))))))) ?_
                    refine CW.region ?_
                    refine SeqR.d1 rfl rfl rfl (yl_move rfl rfl ?_)
                    refine SeqR.d1 rfl rfl rfl (yl_inc rfl rfl rfl (by omega) ?_)
                    refine SeqR.d1 rfl rfl rfl (yl_assign rfl rfl ?_)
                    refine SeqR.done ?_
                    refine tn ?_
                    have hB376 : B_s_l3Bytes_1 p_s p_more k5 k254 (x255) = .cont (true) := by simp only [B_s_l3Bytes_1, hb21, hb22, hb253, hb287, cond_true, cond_false, loopE_done, loopE_ret]
                    have q377 := Ex.trans hf284 hE349
                    exact ⟨p_more.length - (k254 + 1), by omega, k254 + 1, true, rfl, hlt286, (by omega), rfl, rfl, rfl, rfl, rfl, rfl, rfl, rfl, rfl, rfl, rfl, rfl, rfl, rfl, rfl, rfl, rfl, rfl, rfl, q377, (loopM.cont hlt286 hB376).symm.trans hI263⟩
                · skip
                  refine CW.drawsI 11 (vgetI [DetI (.bool (x255)), DetI (.bool (x255)), DetI (.string (bs (p_s))), DetI (.int .i64 ((k5 : Int))), DetI (.int .u8 (((p_s.getD k5 0).toNat : Int))), DetI (.string (bs (p_more))), DetI (.int .i64 ((k254 : Int))), DetI (.int .u8 (((p_more.getD k254 0).toNat : Int))), DetI (.bool (decide (((p_s.getD k5 0).toNat : Int) = ((p_more.getD k254 0).toNat : Int)))), DetI (.bool (decide (((p_s.getD k5 0).toNat : Int) = ((p_more.getD k254 0).toNat : Int)))), DetI (.bool (decide (((p_s.getD k5 0).toNat : Int) = ((p_more.getD k254 0).toNat : Int))))]) Try.follows rfl rfl rfl rfl rfl rfl (vgetI_stable ⟨StableI.det _, StableI.det _, StableI.det _, StableI.det _, StableI.det _, StableI.det _, StableI.det _, StableI.det _, StableI.det _, StableI.det _, StableI.det _, trivial⟩) ⟨?_, ?_, ?_, ?_, ?_, ?_, ?_, ?_, ?_, ?_, ?_, trivial⟩ ?_
                  · intro L378 w379 hi380
                    have hE381 := hi380.ex
                    have hE381z := Ex.size hE381
                    have hx382 := hi380.old 6 _ rfl rfl
                    exact OpR.op' rfl (Yl.sameI (yl_move rfl hx382 ⟨fun _ _ => rfl, rfl⟩))
                  · intro L383 w384 hi385
                    have hE386 := hi385.ex
                    have hE386z := Ex.size hE386
                    obtain ⟨_, _, _, hx387, -, -, -, rfl⟩ := hi385.dep 0 42 rfl rfl
                    exact OpR.op' rfl (Yl.sameI (yl_move rfl hx387 ⟨fun _ _ => rfl, rfl⟩))
                  · intro L388 w389 hi390
                    have hE391 := hi390.ex
                    have hE391z := Ex.size hE391
                    obtain ⟨_, _, _, hx392, -, -, -, rfl⟩ := hi390.dep 1 43 rfl rfl
                    have hx393 := hi390.old 0 _ rfl rfl
                    exact OpR.want rfl rfl hx392 hb287 (Yl.sameI (yl_move rfl hx393 ⟨fun _ _ => rfl, rfl⟩))
                  · intro L394 w395 hi396
                    have hE397 := hi396.ex
                    have hE397z := Ex.size hE397
                    obtain ⟨_, _, _, hx398, -, -, -, rfl⟩ := hi396.dep 1 43 rfl rfl
                    have hx399 := hi396.old 5 _ rfl rfl
                    exact OpR.want rfl rfl hx398 hb287 (Yl.sameI (yl_move rfl hx399 ⟨fun _ _ => rfl, rfl⟩))
                  · intro L400 w401 hi402
                    have hE403 := hi402.ex
                    have hE403z := Ex.size hE403
                    obtain ⟨_, _, _, hx404, -, -, -, rfl⟩ := hi402.dep 1 43 rfl rfl
                    obtain ⟨_, _, _, hx405, -, -, -, rfl⟩ := hi402.dep 2 44 rfl rfl
                    obtain ⟨_, _, _, hx406, -, -, -, rfl⟩ := hi402.dep 3 45 rfl rfl
                    exact OpR.want rfl rfl hx404 hb287 (Yl.sameI (yl_sindexN Try.un9 (a := p_s) rfl hx405 hx406 (by first | omega | assumption | (simp only [IntKind.wrap_i64] at *; omega)) ⟨fun _ _ => rfl, rfl⟩))
                  · intro L407 w408 hi409
                    have hE410 := hi409.ex
                    have hE410z := Ex.size hE410
                    obtain ⟨_, _, _, hx411, -, -, -, rfl⟩ := hi409.dep 1 43 rfl rfl
                    have hx412 := hi409.old 1 _ rfl rfl
                    exact OpR.want rfl rfl hx411 hb287 (Yl.sameI (yl_move rfl hx412 ⟨fun _ _ => rfl, rfl⟩))
                  · intro L413 w414 hi415
                    have hE416 := hi415.ex
                    have hE416z := Ex.size hE416
                    obtain ⟨_, _, _, hx417, -, -, -, rfl⟩ := hi415.dep 1 43 rfl rfl
                    have hx418 := hi415.old 7 _ rfl rfl
                    exact OpR.want rfl rfl hx417 hb287 (Yl.sameI (yl_move rfl hx418 ⟨fun _ _ => rfl, rfl⟩))
                  · intro L419 w420 hi421
                    have hE422 := hi421.ex
                    have hE422z := Ex.size hE422
                    obtain ⟨_, _, _, hx423, -, -, -, rfl⟩ := hi421.dep 1 43 rfl rfl
                    obtain ⟨_, _, _, hx424, -, -, -, rfl⟩ := hi421.dep 5 47 rfl rfl
                    obtain ⟨_, _, _, hx425, -, -, -, rfl⟩ := hi421.dep 6 48 rfl rfl
                    exact OpR.want rfl rfl hx423 hb287 (Yl.sameI (yl_sindexN Try.un9 (a := p_more) rfl hx424 hx425 (by first | omega | assumption | (simp only [IntKind.wrap_i64] at *; omega)) ⟨fun _ _ => rfl, rfl⟩))
                  · intro L426 w427 hi428
                    have hE429 := hi428.ex
                    have hE429z := Ex.size hE429
                    obtain ⟨_, _, _, hx430, -, -, -, rfl⟩ := hi428.dep 1 43 rfl rfl
                    obtain ⟨_, _, _, hx431, -, -, -, rfl⟩ := hi428.dep 4 46 rfl rfl
                    obtain ⟨_, _, _, hx432, -, -, -, rfl⟩ := hi428.dep 7 49 rfl rfl
                    exact OpR.want rfl rfl hx430 hb287 (Yl.sameI (yl_eql rfl hx431 hx432 ⟨fun _ _ => rfl, rfl⟩))
                  · intro L433 w434 hi435
                    have hE436 := hi435.ex
                    have hE436z := Ex.size hE436
                    obtain ⟨_, _, _, hx437, -, -, -, rfl⟩ := hi435.dep 8 50 rfl rfl
                    obtain ⟨_, _, _, hx438, -, -, -, rfl⟩ := hi435.dep 1 43 rfl rfl
                    exact OpR.op' rfl (Yl.sameI (yl_pick_f rfl hx438 hb287 hx437 ⟨fun _ _ => rfl, rfl⟩))
                  · intro L439 w440 hi441
                    have hE442 := hi441.ex
                    have hE442z := Ex.size hE442
                    obtain ⟨_, _, _, hx443, -, -, -, rfl⟩ := hi441.dep 9 51 rfl rfl
                    exact OpR.op' rfl (Yl.sameI (yl_assign rfl hx443 ⟨fun _ _ => rfl, rfl⟩))
                  · intro fl447 fh448 L444 w445 hp446
                    have hE449 := hp446.ex
                    have hE449z := Ex.size hE449
                    have hx450 := hp446.old 0 _ rfl rfl
                    have hx451 := hp446.old 1 _ rfl rfl
                    have hx452 := hp446.old 5 _ rfl rfl
                    have hx453 := hp446.old 7 _ rfl rfl
                    have hx454 := hp446.old 19 _ rfl rfl
                    have hx455 := hp446.old 20 _ rfl rfl
                    have hx456 := hp446.old 21 _ rfl rfl
                    have hx457 := hp446.old 22 _ rfl rfl
                    have hx458 := hp446.old 25 _ rfl rfl
                    have hx459 := hp446.old 26 _ rfl rfl
                    have hx460 := hp446.old 27 _ rfl rfl
                    have hx461 := hp446.old 28 _ rfl rfl
                    have hx462 := hp446.old 29 _ rfl rfl
                    have hx463 := hp446.old 30 _ rfl rfl
                    have hx464 := hp446.old 31 _ rfl rfl
                    have hx465 := hp446.old 32 _ rfl rfl
                    have hx466 := hp446.old 33 _ rfl rfl
                    have hx467 := hp446.old 34 _ rfl rfl
                    obtain ⟨_, hx468, rfl⟩ := hp446.new 2 44 rfl rfl
                    obtain ⟨_, hx469, rfl⟩ := hp446.new 3 45 rfl rfl
                    obtain ⟨_, hx470, rfl⟩ := hp446.new 4 46 rfl rfl
                    obtain ⟨_, hx471, rfl⟩ := hp446.new 5 47 rfl rfl
                    obtain ⟨_, hx472, rfl⟩ := hp446.new 6 48 rfl rfl
                    obtain ⟨_, hx473, rfl⟩ := hp446.new 7 49 rfl rfl
                    obtain ⟨_, hx474, rfl⟩ := hp446.new 8 50 rfl rfl
                    obtain ⟨_, hx475, rfl⟩ := hp446.new 10 6 rfl rfl
                    refine SeqR.done ?_
                    refine bn ?_
                    refine tn ?_
                    refine CW.sub (Sub.cons (d := 0) hx450 (Sub.cons (d := 1) hx451 (Sub.cons (d := 5) hx452 (Sub.cons (d := 6) hx475 (Sub.cons (d := 7) hx453 (Sub.cons (d := 19) hx454 (Sub.cons (d := 20) hx455 (Sub.cons (d := 21) hx456 (Sub.cons (d := 22) hx457 (Sub.cons (d := 25) hx458 (Sub.cons (d := 26) hx459 (Sub.cons (d := 27) hx460 (Sub.cons (d := 28) hx461 (Sub.cons (d := 29) hx462 (Sub.cons (d := 30) hx463 (Sub.cons (d := 31) hx464 (Sub.cons (d := 32) hx465 (Sub.cons (d := 33) hx466 (Sub.cons (d := 34) hx467 (Sub.cons (d := 44) hx468 (Sub.cons (d := 45) hx469 (Sub.cons (d := 46) hx470 (Sub.cons (d := 47) hx471 (Sub.cons (d := 48) hx472 (Sub.cons (d := 49) hx473 (Sub.cons (d := 50) hx474 (Sub.nil _))))))))))))))))))))))))))) ?_
                    refine CW.region ?_
                    refine SeqR.d1 rfl rfl rfl (yl_move rfl rfl ?_)
                    refine SeqR.d1 rfl rfl rfl (yl_inc rfl rfl rfl (by omega) ?_)
                    refine SeqR.d1 rfl rfl rfl (yl_assign rfl rfl ?_)
                    refine SeqR.done ?_
                    refine tn ?_
                    have hB476 : B_s_l3Bytes_1 p_s p_more k5 k254 (x255) = .cont (decide (((p_s.getD k5 0).toNat : Int) = ((p_more.getD k254 0).toNat : Int))) := by simp only [B_s_l3Bytes_1, hb21, hb22, hb253, hb287, cond_true, cond_false, loopE_done, loopE_ret]
                    have q477 := Ex.trans hf284 hE449
                    exact ⟨p_more.length - (k254 + 1), by omega, k254 + 1, decide (((p_s.getD k5 0).toNat : Int) = ((p_more.getD k254 0).toNat : Int)), rfl, hlt286, (by omega), rfl, rfl, rfl, rfl, rfl, rfl, rfl, rfl, rfl, rfl, rfl, rfl, rfl, rfl, rfl, rfl, rfl, rfl, rfl, q477, (loopM.cont hlt286 hB476).symm.trans hI263⟩
              · skip
                refine CW.seq ?_
                refine CW.seq ?_
                refine CW.region ?_
                refine SeqR.d1 rfl rfl rfl (yl_move rfl rfl ?_)
                refine SeqR.d1 rfl rfl rfl (yl_move rfl rfl ?_)
                refine SeqR.d1 rfl rfl rfl (yl_slen Try.un9 (a := p_more) rfl rfl ?_)
                refine SeqR.d1 rfl rfl rfl (yl_lss rfl rfl rfl ?_)
                refine SeqR.done ?_
                refine tn ?_
                refine CW.cond_f rfl (lt_f hlt286) ?_
                refine CW.exit ?_
                refine tx ?_
                refine tx ?_
                have hL478 : loopM (B_s_l3Bytes_1 p_s p_more k5) (p_more.length - 0) 0 (decide (((p_s.getD k5 0).toNat : Int) ≤ 57)) = .done (x255) := hI263.symm.trans (loopM.stop hlt286)
                refine bx ?_
                refine tn ?_
                refine CW.seq ?_
                refine CW.region ?_
                refine SeqR.d1 rfl rfl rfl (yl_move rfl rfl ?_)
                refine SeqR.d1 rfl rfl rfl (yl_not rfl rfl ?_)
                refine SeqR.done ?_
                refine tn ?_
                refine bcase (x255) (fun hb479 => ?_) (fun hb479 => ?_)
                · skip
                  refine CW.cond_f rfl (not_t hb479) ?_
                  refine CW.skip ?_
                  refine bn ?_
                  refine tn ?_
                  refine CW.region ?_
                  refine SeqR.d1 rfl rfl rfl (yl_move rfl rfl ?_)
                  refine SeqR.d1 rfl rfl rfl (yl_inc rfl rfl rfl (by omega) ?_)
                  refine SeqR.d1 rfl rfl rfl (yl_assign rfl rfl ?_)
                  refine SeqR.done ?_
                  refine tn ?_
                  have hB480 : B_s_l3Bytes_0 p_s p_more k5 () = .cont () := by simp only [B_s_l3Bytes_0, hb21, hb22, hb253, hb479, hL478, cond_true, cond_false, loopE_done, loopE_ret]
                  exact ⟨p_s.length - (k5 + 1), by omega, k5 + 1, rfl, hlt20, (by omega), rfl, rfl, rfl, hf284, (loopM.cont hlt20 hB480).symm.trans hI13⟩
                · skip
                  refine CW.cond_t rfl (not_f hb479) ?_
                  refine CW.seq ?_
                  refine CW.region ?_
                  refine SeqR.d1 rfl rfl rfl (yl_assign rfl rfl ?_)
                  refine SeqR.done ?_
                  refine tn ?_
                  refine CW.ret ?_
                  refine br ?_
                  refine tr ?_
                  refine tr ?_
                  have hB482 : B_s_l3Bytes_0 p_s p_more k5 () = .ret false := by simp only [B_s_l3Bytes_0, hb21, hb22, hb253, hb479, hL478, cond_true, cond_false, loopE_done, loopE_ret]
                  have hL481 : loopM (B_s_l3Bytes_0 p_s p_more) (p_s.length - 0) 0 () = .ret false := hI13.symm.trans (loopM.ret hlt20 hB482)
                  refine br ?_
                  refine tr ?_
                  refine rr rfl (.cons rfl .nil) ?_
                  have hM483 : (s_l3Bytes p_s p_more) = (false) := by simp only [s_l3Bytes, hb21, hb22, hb253, hb479, hL478, hL481, cond_true, cond_false, loopE_done, loopE_ret]
                  rw [hM483]
                  exact ⟨rfl, hf284⟩
          · have hb253p := dec_f hb253
            refine SeqR.z rfl rfl rfl rfl rfl hb253 ?_
            refine SeqR.z rfl rfl rfl rfl rfl hb253 ?_
            refine SeqR.z rfl rfl rfl rfl rfl hb253 ?_
            refine SeqR.z rfl rfl rfl rfl rfl hb253 ?_
            refine SeqR.y rfl rfl rfl rfl rfl hb22 (yl_pick_f rfl rfl hb253 rfl ?_)
            refine SeqR.d1 rfl rfl rfl (yl_pick_f rfl rfl hb22 rfl ?_)
            refine SeqR.d1 rfl rfl rfl (yl_assign rfl rfl ?_)
            refine SeqR.done ?_
            refine tn ?_
            refine CW.seq ?_
            refine CW.seq ?_
            refine CW.region ?_
            refine SeqR.d1 rfl rfl rfl (yl_assign rfl rfl ?_)
            refine SeqR.done ?_
            refine tn ?_
            refine CW.block ?_
            refine CW.loop (fun m486 L487 w488 => ∃ (k484 : Nat) (x485 : Bool), m486 = p_more.length - k484 ∧ k484 ≤ p_more.length ∧ w11.heap.size ≤ w488.heap.size ∧ lkp L487 0 = some (.string (bs (p_s))) ∧ lkp L487 1 = some (.string (bs (p_more))) ∧ lkp L487 5 = some (.int .i64 ((k5 : Int))) ∧ lkp L487 6 = some (.bool (x485)) ∧ lkp L487 7 = some (.int .i64 ((k484 : Int))) ∧ lkp L487 19 = some (.string (bs (p_s))) ∧ lkp L487 20 = some (.int .i64 ((k5 : Int))) ∧ lkp L487 21 = some (.int .u8 (((p_s.getD k5 0).toNat : Int))) ∧ lkp L487 22 = some (.bool (decide (((p_s.getD k5 0).toNat : Int) ≤ 122))) ∧ lkp L487 25 = some (.string (bs (p_s))) ∧ lkp L487 26 = some (.int .i64 ((k5 : Int))) ∧ lkp L487 27 = some (.int .u8 (((p_s.getD k5 0).toNat : Int))) ∧ lkp L487 28 = some (.bool (decide (48 ≤ ((p_s.getD k5 0).toNat : Int)))) ∧ lkp L487 29 = some (.bool (decide (48 ≤ ((p_s.getD k5 0).toNat : Int)))) ∧ lkp L487 30 = some (undef) ∧ lkp L487 31 = some (undef) ∧ lkp L487 32 = some (undef) ∧ lkp L487 33 = some (undef) ∧ lkp L487 34 = some (.bool (false)) ∧ Ex w w488 ∧ loopM (B_s_l3Bytes_1 p_s p_more k5) (p_more.length - k484) k484 (x485) = loopM (B_s_l3Bytes_1 p_s p_more k5) (p_more.length - 0) 0 (false)) (p_more.length - 0) ?_ ?_
            · exact ⟨0, false, rfl, (by omega), Nat.le_refl _, rfl, rfl, rfl, rfl, rfl, rfl, rfl, rfl, rfl, rfl, rfl, rfl, rfl, rfl, rfl, rfl, rfl, rfl, rfl, hf18, rfl⟩
            · rintro m489 L490 w491 ⟨k484, x485, rfl, hk492, hsz494, hl495, hl496, hl497, hl498, hl499, hl500, hl501, hl502, hl503, hl504, hl505, hl506, hl507, hl508, hl509, hl510, hl511, hl512, hl513, hf514, hI493⟩
              refine CW.sub (Sub.cons hl495 (Sub.cons hl496 (Sub.cons hl497 (Sub.cons hl498 (Sub.cons hl499 (Sub.cons hl500 (Sub.cons hl501 (Sub.cons hl502 (Sub.cons hl503 (Sub.cons hl504 (Sub.cons hl505 (Sub.cons hl506 (Sub.cons hl507 (Sub.cons hl508 (Sub.cons hl509 (Sub.cons hl510 (Sub.cons hl511 (Sub.cons hl512 (Sub.cons hl513 (Sub.nil _)))))))))))))))))))) ?_
              have hf514z := Ex.size hf514
              have hbg515 : p_more.length ≤ 1073741824 := o2
              rcases Nat.lt_or_ge k484 p_more.length with hlt516 | hlt516
              · skip
                refine CW.seq ?_
                refine CW.seq ?_
                refine CW.region ?_
                refine SeqR.d1 rfl rfl rfl (yl_move rfl rfl ?_)
                refine SeqR.d1 rfl rfl rfl (yl_move rfl rfl ?_)
                refine SeqR.d1 rfl rfl rfl (yl_slen Try.un9 (a := p_more) rfl rfl ?_)
                refine SeqR.d1 rfl rfl rfl (yl_lss rfl rfl rfl ?_)
                refine SeqR.done ?_
                refine tn ?_
                refine CW.cond_t rfl (lt_t hlt516) ?_
                refine CW.skip ?_
                refine tn ?_
                refine CW.seq ?_
                refine CW.block ?_
                refine bcase (x485) (fun hb517 => ?_) (fun hb517 => ?_)
                · skip
                  refine CW.drawsI 11 (vgetI [DetI (.bool (x485)), DetI (.bool (x485)), DetI (undef), DetI (undef), DetI (undef), DetI (undef), DetI (undef), DetI (undef), DetI (undef), DetI (.bool (true)), DetI (.bool (true))]) Try.follows rfl rfl rfl rfl rfl rfl (vgetI_stable ⟨StableI.det _, StableI.det _, StableI.det _, StableI.det _, StableI.det _, StableI.det _, StableI.det _, StableI.det _, StableI.det _, StableI.det _, StableI.det _, trivial⟩) ⟨?_, ?_, ?_, ?_, ?_, ?_, ?_, ?_, ?_, ?_, ?_, trivial⟩ ?_
                  · intro L518 w519 hi520
                    have hE521 := hi520.ex
                    have hE521z := Ex.size hE521
                    have hx522 := hi520.old 6 _ rfl rfl
                    exact OpR.op' rfl (Yl.sameI (yl_move rfl hx522 ⟨fun _ _ => rfl, rfl⟩))
                  · intro L523 w524 hi525
                    have hE526 := hi525.ex
                    have hE526z := Ex.size hE526
                    obtain ⟨_, _, _, hx527, -, -, -, rfl⟩ := hi525.dep 0 42 rfl rfl
                    exact OpR.op' rfl (Yl.sameI (yl_move rfl hx527 ⟨fun _ _ => rfl, rfl⟩))
                  · intro L528 w529 hi530
                    have hE531 := hi530.ex
                    have hE531z := Ex.size hE531
                    obtain ⟨_, _, _, hx532, -, -, -, rfl⟩ := hi530.dep 1 43 rfl rfl
                    exact OpR.skip rfl rfl hx532 hb517 ⟨rfl, Ex.refl _⟩
                  · intro L533 w534 hi535
                    have hE536 := hi535.ex
                    have hE536z := Ex.size hE536
                    obtain ⟨_, _, _, hx537, -, -, -, rfl⟩ := hi535.dep 1 43 rfl rfl
                    exact OpR.skip rfl rfl hx537 hb517 ⟨rfl, Ex.refl _⟩
                  · intro L538 w539 hi540
                    have hE541 := hi540.ex
                    have hE541z := Ex.size hE541
                    obtain ⟨_, _, _, hx542, -, -, -, rfl⟩ := hi540.dep 1 43 rfl rfl
                    exact OpR.skip rfl rfl hx542 hb517 ⟨rfl, Ex.refl _⟩
                  · intro L543 w544 hi545
                    have hE546 := hi545.ex
                    have hE546z := Ex.size hE546
                    obtain ⟨_, _, _, hx547, -, -, -, rfl⟩ := hi545.dep 1 43 rfl rfl
                    exact OpR.skip rfl rfl hx547 hb517 ⟨rfl, Ex.refl _⟩
                  · intro L548 w549 hi550
                    have hE551 := hi550.ex
                    have hE551z := Ex.size hE551
                    obtain ⟨_, _, _, hx552, -, -, -, rfl⟩ := hi550.dep 1 43 rfl rfl
                    exact OpR.skip rfl rfl hx552 hb517 ⟨rfl, Ex.refl _⟩
                  · intro L553 w554 hi555
                    have hE556 := hi555.ex
                    have hE556z := Ex.size hE556
                    obtain ⟨_, _, _, hx557, -, -, -, rfl⟩ := hi555.dep 1 43 rfl rfl
                    exact OpR.skip rfl rfl hx557 hb517 ⟨rfl, Ex.refl _⟩
                  · intro L558 w559 hi560
                    have hE561 := hi560.ex
                    have hE561z := Ex.size hE561
                    obtain ⟨_, _, _, hx562, -, -, -, rfl⟩ := hi560.dep 1 43 rfl rfl
                    exact OpR.skip rfl rfl hx562 hb517 ⟨rfl, Ex.refl _⟩
                  · intro L563 w564 hi565
                    have hE566 := hi565.ex
                    have hE566z := Ex.size hE566
                    obtain ⟨_, _, _, hx567, -, -, -, rfl⟩ := hi565.dep 8 50 rfl rfl
                    obtain ⟨_, _, _, hx568, -, -, -, rfl⟩ := hi565.dep 1 43 rfl rfl
                    exact OpR.op' rfl (Yl.sameI (yl_pick_t rfl hx568 hb517 rfl ⟨fun _ _ => rfl, rfl⟩))
                  · intro L569 w570 hi571
                    have hE572 := hi571.ex
                    have hE572z := Ex.size hE572
                    obtain ⟨_, _, _, hx573, -, -, -, rfl⟩ := hi571.dep 9 51 rfl rfl
                    exact OpR.op' rfl (Yl.sameI (yl_assign rfl hx573 ⟨fun _ _ => rfl, rfl⟩))
                  · intro fl577 fh578 L574 w575 hp576
                    have hE579 := hp576.ex
                    have hE579z := Ex.size hE579
                    have hx580 := hp576.old 0 _ rfl rfl
                    have hx581 := hp576.old 1 _ rfl rfl
                    have hx582 := hp576.old 5 _ rfl rfl
                    have hx583 := hp576.old 7 _ rfl rfl
                    have hx584 := hp576.old 19 _ rfl rfl
                    have hx585 := hp576.old 20 _ rfl rfl
                    have hx586 := hp576.old 21 _ rfl rfl
                    have hx587 := hp576.old 22 _ rfl rfl
                    have hx588 := hp576.old 25 _ rfl rfl
                    have hx589 := hp576.old 26 _ rfl rfl
                    have hx590 := hp576.old 27 _ rfl rfl
                    have hx591 := hp576.old 28 _ rfl rfl
                    have hx592 := hp576.old 29 _ rfl rfl
                    have hx593 := hp576.old 30 _ rfl rfl
                    have hx594 := hp576.old 31 _ rfl rfl
                    have hx595 := hp576.old 32 _ rfl rfl
                    have hx596 := hp576.old 33 _ rfl rfl
                    have hx597 := hp576.old 34 _ rfl rfl
                    obtain ⟨_, hx598, rfl⟩ := hp576.new 2 44 rfl rfl
                    obtain ⟨_, hx599, rfl⟩ := hp576.new 3 45 rfl rfl
                    obtain ⟨_, hx600, rfl⟩ := hp576.new 4 46 rfl rfl
                    obtain ⟨_, hx601, rfl⟩ := hp576.new 5 47 rfl rfl
                    obtain ⟨_, hx602, rfl⟩ := hp576.new 6 48 rfl rfl
                    obtain ⟨_, hx603, rfl⟩ := hp576.new 7 49 rfl rfl
                    obtain ⟨_, hx604, rfl⟩ := hp576.new 8 50 rfl rfl
                    obtain ⟨_, hx605, rfl⟩ := hp576.new 10 6 rfl rfl
                    refine SeqR.done ?_
                    refine bn ?_
                    refine tn ?_
                    refine CW.sub (Sub.cons (d := 0) hx580 (Sub.cons (d := 1) hx581 (Sub.cons (d := 5) hx582 (Sub.cons (d := 6) hx605 (Sub.cons (d := 7) hx583 (Sub.cons (d := 19) hx584 (Sub.cons (d := 20) hx585 (Sub.cons (d := 21) hx586 (Sub.cons (d := 22) hx587 (Sub.cons (d := 25) hx588 (Sub.cons (d := 26) hx589 (Sub.cons (d := 27) hx590 (Sub.cons (d := 28) hx591 (Sub.cons (d := 29) hx592 (Sub.cons (d := 30) hx593 (Sub.cons (d := 31) hx594 (Sub.cons (d := 32) hx595 (Sub.cons (d := 33) hx596 (Sub.cons (d := 34) hx597 (Sub.cons (d := 44) hx598 (Sub.cons (d := 45) hx599 (Sub.cons (d := 46) hx600 (Sub.cons (d := 47) hx601 (Sub.cons (d := 48) hx602 (Sub.cons (d := 49) hx603 (Sub.cons (d := 50) hx604 (Sub.nil _))))))))))))))))))))))))))) ?_
                    refine CW.region ?_
                    refine SeqR.d1 rfl rfl rfl (yl_move rfl rfl ?_)
                    refine SeqR.d1 rfl rfl rfl (yl_inc rfl rfl rfl (by omega) ?_)
                    refine SeqR.d1 rfl rfl rfl (yl_assign rfl rfl ?_)
                    refine SeqR.done ?_
                    refine tn ?_
                    have hB606 : B_s_l3Bytes_1 p_s p_more k5 k484 (x485) = .cont (true) := by simp only [B_s_l3Bytes_1, hb21, hb22, hb253, hb517, cond_true, cond_false, loopE_done, loopE_ret]
                    have q607 := Ex.trans hf514 hE579
                    exact ⟨p_more.length - (k484 + 1), by omega, k484 + 1, true, rfl, hlt516, (by omega), rfl, rfl, rfl, rfl, rfl, rfl, rfl, rfl, rfl, rfl, rfl, rfl, rfl, rfl, rfl, rfl, rfl, rfl, rfl, q607, (loopM.cont hlt516 hB606).symm.trans hI493⟩
                · skip
                  refine CW.drawsI 11 (vgetI [DetI (.bool (x485)), DetI (.bool (x485)), DetI (.string (bs (p_s))), DetI (.int .i64 ((k5 : Int))), DetI (.int .u8 (((p_s.getD k5 0).toNat : Int))), DetI (.string (bs (p_more))), DetI (.int .i64 ((k484 : Int))), DetI (.int .u8 (((p_more.getD k484 0).toNat : Int))), DetI (.bool (decide (((p_s.getD k5 0).toNat : Int) = ((p_more.getD k484 0).toNat : Int)))), DetI (.bool (decide (((p_s.getD k5 0).toNat : Int) = ((p_more.getD k484 0).toNat : Int)))), DetI (.bool (decide (((p_s.getD k5 0).toNat : Int) = ((p_more.getD k484 0).toNat : Int))))]) Try.follows rfl rfl rfl rfl rfl rfl (vgetI_stable ⟨StableI.det _, StableI.det _, StableI.det _, StableI.det _, StableI.det _, StableI.det _, StableI.det _, StableI.det _, StableI.det _, StableI.det _, StableI.det _, trivial⟩) ⟨?_, ?_, ?_, ?_, ?_, ?_, ?_, ?_, ?_, ?_, ?_, trivial⟩ ?_
                  · intro L608 w609 hi610
                    have hE611 := hi610.ex
                    have hE611z := Ex.size hE611
                    have hx612 := hi610.old 6 _ rfl rfl
                    exact OpR.op' rfl (Yl.sameI (yl_move rfl hx612 ⟨fun _ _ => rfl, rfl⟩))
                  · intro L613 w614 hi615
                    have hE616 := hi615.ex
                    have hE616z := Ex.size hE616
                    obtain ⟨_, _, _, hx617, -, -, -, rfl⟩ := hi615.dep 0 42 rfl rfl
                    exact OpR.op' rfl (Yl.sameI (yl_move rfl hx617 ⟨fun _ _ => rfl, rfl⟩))
                  · intro L618 w619 hi620
                    have hE621 := hi620.ex
                    have hE621z := Ex.size hE621
                    obtain ⟨_, _, _, hx622, -, -, -, rfl⟩ := hi620.dep 1 43 rfl rfl
                    have hx623 := hi620.old 0 _ rfl rfl
                    exact OpR.want rfl rfl hx622 hb517 (Yl.sameI (yl_move rfl hx623 ⟨fun _ _ => rfl, rfl⟩))
                  · intro L624 w625 hi626
                    have hE627 := hi626.ex
                    have hE627z := Ex.size hE627
                    obtain ⟨_, _, _, hx628, -, -, -, rfl⟩ := hi626.dep 1 43 rfl rfl
                    have hx629 := hi626.old 5 _ rfl rfl
                    exact OpR.want rfl rfl hx628 hb517 (Yl.sameI (yl_move rfl hx629 ⟨fun _ _ => rfl, rfl⟩))
                  · intro L630 w631 hi632
                    have hE633 := hi632.ex
                    have hE633z := Ex.size hE633
                    obtain ⟨_, _, _, hx634, -, -, -, rfl⟩ := hi632.dep 1 43 rfl rfl
                    obtain ⟨_, _, _, hx635, -, -, -, rfl⟩ := hi632.dep 2 44 rfl rfl
                    obtain ⟨_, _, _, hx636, -, -, -, rfl⟩ := hi632.dep 3 45 rfl rfl
                    exact OpR.want rfl rfl hx634 hb517 (Yl.sameI (yl_sindexN Try.un9 (a := p_s) rfl hx635 hx636 (by first | omega | assumption | (simp only [IntKind.wrap_i64] at *; omega)) ⟨fun _ _ => rfl, rfl⟩))
                  · intro L637 w638 hi639
                    have hE640 := hi639.ex
                    have hE640z := Ex.size hE640
                    obtain ⟨_, _, _, hx641, -, -, -, rfl⟩ := hi639.dep 1 43 rfl rfl
                    have hx642 := hi639.old 1 _ rfl rfl
                    exact OpR.want rfl rfl hx641 hb517 (Yl.sameI (yl_move rfl hx642 ⟨fun _ _ => rfl, rfl⟩))
                  · intro L643 w644 hi645
                    have hE646 := hi645.ex
                    have hE646z := Ex.size hE646
                    obtain ⟨_, _, _, hx647, -, -, -, rfl⟩ := hi645.dep 1 43 rfl rfl
                    have hx648 := hi645.old 7 _ rfl rfl
                    exact OpR.want rfl rfl hx647 hb517 (Yl.sameI (yl_move rfl hx648 ⟨fun _ _ => rfl, rfl⟩))
                  · intro L649 w650 hi651
                    have hE652 := hi651.ex
                    have hE652z := Ex.size hE652
                    obtain ⟨_, _, _, hx653, -, -, -, rfl⟩ := hi651.dep 1 43 rfl rfl
                    obtain ⟨_, _, _, hx654, -, -, -, rfl⟩ := hi651.dep 5 47 rfl rfl
                    obtain ⟨_, _, _, hx655, -, -, -, rfl⟩ := hi651.dep 6 48 rfl rfl
                    exact OpR.want rfl rfl hx653 hb517 (Yl.sameI (yl_sindexN Try.un9 (a := p_more) rfl hx654 hx655 (by first | omega | assumption | (simp only [IntKind.wrap_i64] at *; omega)) ⟨fun _ _ => rfl, rfl⟩))
                  · intro L656 w657 hi658
                    have hE659 := hi658.ex
                    have hE659z := Ex.size hE659
                    obtain ⟨_, _, _, hx660, -, -, -, rfl⟩ := hi658.dep 1 43 rfl rfl
                    obtain ⟨_, _, _, hx661, -, -, -, rfl⟩ := hi658.dep 4 46 rfl rfl
                    obtain ⟨_, _, _, hx662, -, -, -, rfl⟩ := hi658.dep 7 49 rfl rfl
                    exact OpR.want rfl rfl hx660 hb517 (Yl.sameI (yl_eql rfl hx661 hx662 ⟨fun _ _ => rfl, rfl⟩))
                  · intro L663 w664 hi665
                    have hE666 := hi665.ex
                    have hE666z := Ex.size hE666
                    obtain ⟨_, _, _, hx667, -, -, -, rfl⟩ := hi665.dep 8 50 rfl rfl
                    obtain ⟨_, _, _, hx668, -, -, -, rfl⟩ := hi665.dep 1 43 rfl rfl
                    exact OpR.op' rfl (Yl.sameI (yl_pick_f rfl hx668 hb517 hx667 ⟨fun _ _ => rfl, rfl⟩))
                  · intro L669 w670 hi671
                    have hE672 := hi671.ex
                    have hE672z := Ex.size hE672
                    obtain ⟨_, _, _, hx673, -, -, -, rfl⟩ := hi671.dep 9 51 rfl rfl
                    exact OpR.op' rfl (Yl.sameI (yl_assign rfl hx673 ⟨fun _ _ => rfl, rfl⟩))
                  · intro fl677 fh678 L674 w675 hp676
                    have hE679 := hp676.ex
                    have hE679z := Ex.size hE679
                    have hx680 := hp676.old 0 _ rfl rfl
                    have hx681 := hp676.old 1 _ rfl rfl
                    have hx682 := hp676.old 5 _ rfl rfl
                    have hx683 := hp676.old 7 _ rfl rfl
                    have hx684 := hp676.old 19 _ rfl rfl
                    have hx685 := hp676.old 20 _ rfl rfl
                    have hx686 := hp676.old 21 _ rfl rfl
                    have hx687 := hp676.old 22 _ rfl rfl
                    have hx688 := hp676.old 25 _ rfl rfl
                    have hx689 := hp676.old 26 _ rfl rfl
                    have hx690 := hp676.old 27 _ rfl rfl
                    have hx691 := hp676.old 28 _ rfl rfl
                    have hx692 := hp676.old 29 _ rfl rfl
                    have hx693 := hp676.old 30 _ rfl rfl
                    have hx694 := hp676.old 31 _ rfl rfl
                    have hx695 := hp676.old 32 _ rfl rfl
                    have hx696 := hp676.old 33 _ rfl rfl
                    have hx697 := hp676.old 34 _ rfl rfl
                    obtain ⟨_, hx698, rfl⟩ := hp676.new 2 44 rfl rfl
                    obtain ⟨_, hx699, rfl⟩ := hp676.new 3 45 rfl rfl
                    obtain ⟨_, hx700, rfl⟩ := hp676.new 4 46 rfl rfl
                    obtain ⟨_, hx701, rfl⟩ := hp676.new 5 47 rfl rfl
                    obtain ⟨_, hx702, rfl⟩ := hp676.new 6 48 rfl rfl
                    obtain ⟨_, hx703, rfl⟩ := hp676.new 7 49 rfl rfl
                    obtain ⟨_, hx704, rfl⟩ := hp676.new 8 50 rfl rfl
                    obtain ⟨_, hx705, rfl⟩ := hp676.new 10 6 rfl rfl
                    refine SeqR.done ?_
                    refine bn ?_
                    refine tn ?_
                    refine CW.sub (Sub.cons (d := 0) hx680 (Sub.cons (d := 1) hx681 (Sub.cons (d := 5) hx682 (Sub.cons (d := 6) hx705 (Sub.cons (d := 7) hx683 (Sub.cons (d := 19) hx684 (Sub.cons (d := 20) hx685 (Sub.cons (d := 21) hx686 (Sub.cons (d := 22) hx687 (Sub.cons (d := 25) hx688 (Sub.cons (d := 26) hx689 (Sub.cons (d := 27) hx690 (Sub.cons (d := 28) hx691 (Sub.cons (d := 29) hx692 (Sub.cons (d := 30) hx693 (Sub.cons (d := 31) hx694 (Sub.cons (d := 32) hx695 (Sub.cons (d := 33) hx696 (Sub.cons (d := 34) hx697 (Sub.cons (d := 44) hx698 (Sub.cons (d := 45) hx699 (Sub.cons (d := 46) hx700 (Sub.cons (d := 47) hx701 (Sub.cons (d := 48) hx702 (Sub.cons (d := 49) hx703 (Sub.cons (d := 50) hx704 (Sub.nil _))))))))))))))))))))))))))) ?_
                    refine CW.region ?_
                    refine SeqR.d1 rfl rfl rfl (yl_move rfl rfl ?_)
                    refine SeqR.d1 rfl rfl rfl (yl_inc rfl rfl rfl (by omega) ?_)
                    refine SeqR.d1 rfl rfl rfl (yl_assign rfl rfl ?_)
                    refine SeqR.done ?_
                    refine tn ?_
                    have hB706 : B_s_l3Bytes_1 p_s p_more k5 k484 (x485) = .cont (decide (((p_s.getD k5 0).toNat : Int) = ((p_more.getD k484 0).toNat : Int))) := by simp only [B_s_l3Bytes_1, hb21, hb22, hb253, hb517, cond_true, cond_false, loopE_done, loopE_ret]
                    have q707 := Ex.trans hf514 hE679
                    exact ⟨p_more.length - (k484 + 1), by omega, k484 + 1, decide (((p_s.getD k5 0).toNat : Int) = ((p_more.getD k484 0).toNat : Int)), rfl, hlt516, (by omega), rfl, rfl, rfl, rfl, rfl, rfl, rfl, rfl, rfl, rfl, rfl, rfl, rfl, rfl, rfl, rfl, rfl, rfl, rfl, q707, (loopM.cont hlt516 hB706).symm.trans hI493⟩
              · skip
                refine CW.seq ?_
                refine CW.seq ?_
                refine CW.region ?_
                refine SeqR.d1 rfl rfl rfl (yl_move rfl rfl ?_)
                refine SeqR.d1 rfl rfl rfl (yl_move rfl rfl ?_)
                refine SeqR.d1 rfl rfl rfl (yl_slen Try.un9 (a := p_more) rfl rfl ?_)
                refine SeqR.d1 rfl rfl rfl (yl_lss rfl rfl rfl ?_)
                refine SeqR.done ?_
                refine tn ?_
                refine CW.cond_f rfl (lt_f hlt516) ?_
                refine CW.exit ?_
                refine tx ?_
                refine tx ?_
                have hL708 : loopM (B_s_l3Bytes_1 p_s p_more k5) (p_more.length - 0) 0 (false) = .done (x485) := hI493.symm.trans (loopM.stop hlt516)
                refine bx ?_
                refine tn ?_
                refine CW.seq ?_
                refine CW.region ?_
                refine SeqR.d1 rfl rfl rfl (yl_move rfl rfl ?_)
                refine SeqR.d1 rfl rfl rfl (yl_not rfl rfl ?_)
                refine SeqR.done ?_
                refine tn ?_
                refine bcase (x485) (fun hb709 => ?_) (fun hb709 => ?_)
                · skip
                  refine CW.cond_f rfl (not_t hb709) ?_
                  refine CW.skip ?_
                  refine bn ?_
                  refine tn ?_
                  refine CW.region ?_
                  refine SeqR.d1 rfl rfl rfl (yl_move rfl rfl ?_)
                  refine SeqR.d1 rfl rfl rfl (yl_inc rfl rfl rfl (by omega) ?_)
                  refine SeqR.d1 rfl rfl rfl (yl_assign rfl rfl ?_)
                  refine SeqR.done ?_
                  refine tn ?_
                  have hB710 : B_s_l3Bytes_0 p_s p_more k5 () = .cont () := by simp only [B_s_l3Bytes_0, hb21, hb22, hb253, hb709, hL708, cond_true, cond_false, loopE_done, loopE_ret]
                  exact ⟨p_s.length - (k5 + 1), by omega, k5 + 1, rfl, hlt20, (by omega), rfl, rfl, rfl, hf514, (loopM.cont hlt20 hB710).symm.trans hI13⟩
                · skip
                  refine CW.cond_t rfl (not_f hb709) ?_
                  refine CW.seq ?_
                  refine CW.region ?_
                  refine SeqR.d1 rfl rfl rfl (yl_assign rfl rfl ?_)
                  refine SeqR.done ?_
                  refine tn ?_
                  refine CW.ret ?_
                  refine br ?_
                  refine tr ?_
                  refine tr ?_
                  have hB712 : B_s_l3Bytes_0 p_s p_more k5 () = .ret false := by simp only [B_s_l3Bytes_0, hb21, hb22, hb253, hb709, hL708, cond_true, cond_false, loopE_done, loopE_ret]
                  have hL711 : loopM (B_s_l3Bytes_0 p_s p_more) (p_s.length - 0) 0 () = .ret false := hI13.symm.trans (loopM.ret hlt20 hB712)
                  refine br ?_
                  refine tr ?_
                  refine rr rfl (.cons rfl .nil) ?_
                  have hM713 : (s_l3Bytes p_s p_more) = (false) := by simp only [s_l3Bytes, hb21, hb22, hb253, hb709, hL708, hL711, cond_true, cond_false, loopE_done, loopE_ret]
                  rw [hM713]
                  exact ⟨rfl, hf514⟩
      · have hb21p := dec_f hb21
        refine SeqR.z rfl rfl rfl rfl rfl hb21 ?_
        refine SeqR.z rfl rfl rfl rfl rfl hb21 ?_
        refine SeqR.z rfl rfl rfl rfl rfl hb21 ?_
        refine SeqR.z rfl rfl rfl rfl rfl hb21 ?_
        refine SeqR.d1 rfl rfl rfl (yl_pick_f rfl rfl hb21 rfl ?_)
        refine SeqR.d1 rfl rfl rfl (yl_move rfl rfl ?_)
        refine SeqR.y rfl rfl rfl rfl rfl rfl (yl_move rfl rfl ?_)
        refine SeqR.y rfl rfl rfl rfl rfl rfl (yl_move rfl rfl ?_)
        refine SeqR.y rfl rfl rfl rfl rfl rfl (yl_sindexN Try.un9 (a := p_s) rfl rfl rfl (by first | omega | assumption | (simp only [IntKind.wrap_i64] at *; omega)) ?_)
        refine SeqR.y rfl rfl rfl rfl rfl rfl (yl_geq rfl rfl rfl ?_)
        refine SeqR.y rfl rfl rfl rfl rfl rfl (yl_move rfl rfl ?_)
        refine bcase (decide (48 ≤ ((p_s.getD k5 0).toNat : Int))) (fun hb714 => ?_) (fun hb714 => ?_)
        · have hb714p := dec_t hb714
          refine SeqR.y rfl rfl rfl rfl rfl hb714 (yl_move rfl rfl ?_)
          refine SeqR.y rfl rfl rfl rfl rfl hb714 (yl_move rfl rfl ?_)
          refine SeqR.y rfl rfl rfl rfl rfl hb714 (yl_sindexN Try.un9 (a := p_s) rfl rfl rfl (by first | omega | assumption | (simp only [IntKind.wrap_i64] at *; omega)) ?_)
          refine SeqR.y rfl rfl rfl rfl rfl hb714 (yl_leq rfl rfl rfl ?_)
          refine SeqR.y rfl rfl rfl rfl rfl rfl (yl_pick_t rfl rfl hb714 rfl ?_)
          refine SeqR.d1 rfl rfl rfl (yl_pick_f rfl rfl rfl rfl ?_)
          refine SeqR.d1 rfl rfl rfl (yl_assign rfl rfl ?_)
          refine SeqR.done ?_
          refine tn ?_
          refine CW.seq ?_
          refine CW.seq ?_
          refine CW.region ?_
          refine SeqR.d1 rfl rfl rfl (yl_assign rfl rfl ?_)
          refine SeqR.done ?_
          refine tn ?_
          refine CW.block ?_
          refine CW.loop (fun m717 L718 w719 => ∃ (k715 : Nat) (x716 : Bool), m717 = p_more.length - k715 ∧ k715 ≤ p_more.length ∧ w11.heap.size ≤ w719.heap.size ∧ lkp L718 0 = some (.string (bs (p_s))) ∧ lkp L718 1 = some (.string (bs (p_more))) ∧ lkp L718 5 = some (.int .i64 ((k5 : Int))) ∧ lkp L718 6 = some (.bool (x716)) ∧ lkp L718 7 = some (.int .i64 ((k715 : Int))) ∧ lkp L718 19 = some (undef) ∧ lkp L718 20 = some (undef) ∧ lkp L718 21 = some (undef) ∧ lkp L718 22 = some (undef) ∧ lkp L718 25 = some (.string (bs (p_s))) ∧ lkp L718 26 = some (.int .i64 ((k5 : Int))) ∧ lkp L718 27 = some (.int .u8 (((p_s.getD k5 0).toNat : Int))) ∧ lkp L718 28 = some (.bool (decide (48 ≤ ((p_s.getD k5 0).toNat : Int)))) ∧ lkp L718 29 = some (.bool (decide (48 ≤ ((p_s.getD k5 0).toNat : Int)))) ∧ lkp L718 30 = some (.string (bs (p_s))) ∧ lkp L718 31 = some (.int .i64 ((k5 : Int))) ∧ lkp L718 32 = some (.int .u8 (((p_s.getD k5 0).toNat : Int))) ∧ lkp L718 33 = some (.bool (decide (((p_s.getD k5 0).toNat : Int) ≤ 57))) ∧ lkp L718 34 = some (.bool (decide (((p_s.getD k5 0).toNat : Int) ≤ 57))) ∧ Ex w w719 ∧ loopM (B_s_l3Bytes_1 p_s p_more k5) (p_more.length - k715) k715 (x716) = loopM (B_s_l3Bytes_1 p_s p_more k5) (p_more.length - 0) 0 (decide (((p_s.getD k5 0).toNat : Int) ≤ 57))) (p_more.length - 0) ?_ ?_
          · exact ⟨0, decide (((p_s.getD k5 0).toNat : Int) ≤ 57), rfl, (by omega), Nat.le_refl _, rfl, rfl, rfl, rfl, rfl, rfl, rfl, rfl, rfl, rfl, rfl, rfl, rfl, rfl, rfl, rfl, rfl, rfl, rfl, hf18, rfl⟩
          · rintro m720 L721 w722 ⟨k715, x716, rfl, hk723, hsz725, hl726, hl727, hl728, hl729, hl730, hl731, hl732, hl733, hl734, hl735, hl736, hl737, hl738, hl739, hl740, hl741, hl742, hl743, hl744, hf745, hI724⟩
            refine CW.sub (Sub.cons hl726 (Sub.cons hl727 (Sub.cons hl728 (Sub.cons hl729 (Sub.cons hl730 (Sub.cons hl731 (Sub.cons hl732 (Sub.cons hl733 (Sub.cons hl734 (Sub.cons hl735 (Sub.cons hl736 (Sub.cons hl737 (Sub.cons hl738 (Sub.cons hl739 (Sub.cons hl740 (Sub.cons hl741 (Sub.cons hl742 (Sub.cons hl743 (Sub.cons hl744 (Sub.nil _)))))))))))))))))))) ?_
            have hf745z := Ex.size hf745
            have hbg746 : p_more.length ≤ 1073741824 := o2
            rcases Nat.lt_or_ge k715 p_more.length with hlt747 | hlt747
            · skip
              refine CW.seq ?_
              refine CW.seq ?_
              refine CW.region ?_
              refine SeqR.d1 rfl rfl rfl (yl_move rfl rfl ?_)
              refine SeqR.d1 rfl rfl rfl (yl_move rfl rfl ?_)
              refine SeqR.d1 rfl rfl rfl (yl_slen Try.un9 (a := p_more) rfl rfl ?_)
              refine SeqR.d1 rfl rfl rfl (yl_lss rfl rfl rfl ?_)
              refine SeqR.done ?_
              refine tn ?_
              refine CW.cond_t rfl (lt_t hlt747) ?_
              refine CW.skip ?_
              refine tn ?_
              refine CW.seq ?_
              refine CW.block ?_
              refine bcase (x716) (fun hb748 => ?_) (fun hb748 => ?_)
              · skip
                refine CW.drawsI 11 (vgetI [DetI (.bool (x716)), DetI (.bool (x716)), DetI (undef), DetI (undef), DetI (undef), DetI (undef), DetI (undef), DetI (undef), DetI (undef), DetI (.bool (true)), DetI (.bool (true))]) Try.follows rfl rfl rfl rfl rfl rfl (vgetI_stable ⟨StableI.det _, StableI.det _, StableI.det _, StableI.det _, StableI.det _, StableI.det _, StableI.det _, StableI.det _, StableI.det _, StableI.det _, StableI.det _, trivial⟩) ⟨?_, ?_, ?_, ?_, ?_, ?_, ?_, ?_, ?_, ?_, ?_, trivial⟩ ?_
                · intro L749 w750 hi751
                  have hE752 := hi751.ex
                  have hE752z := Ex.size hE752
                  have hx753 := hi751.old 6 _ rfl rfl
                  exact OpR.op' rfl (Yl.sameI (yl_move rfl hx753 ⟨fun _ _ => rfl, rfl⟩))
                · intro L754 w755 hi756
                  have hE757 := hi756.ex
                  have hE757z := Ex.size hE757
                  obtain ⟨_, _, _, hx758, -, -, -, rfl⟩ := hi756.dep 0 42 rfl rfl
                  exact OpR.op' rfl (Yl.sameI (yl_move rfl hx758 ⟨fun _ _ => rfl, rfl⟩))
                · intro L759 w760 hi761
                  have hE762 := hi761.ex
                  have hE762z := Ex.size hE762
                  obtain ⟨_, _, _, hx763, -, -, -, rfl⟩ := hi761.dep 1 43 rfl rfl
                  exact OpR.skip rfl rfl hx763 hb748 ⟨rfl, Ex.refl _⟩
                · intro L764 w765 hi766
                  have hE767 := hi766.ex
                  have hE767z := Ex.size hE767
                  obtain ⟨_, _, _, hx768, -, -, -, rfl⟩ := hi766.dep 1 43 rfl rfl
                  exact OpR.skip rfl rfl hx768 hb748 ⟨rfl, Ex.refl _⟩
                · intro L769 w770 hi771
                  have hE772 := hi771.ex
                  have hE772z := Ex.size hE772
                  obtain ⟨_, _, _, hx773, -, -, -, rfl⟩ := hi771.dep 1 43 rfl rfl
                  exact OpR.skip rfl rfl hx773 hb748 ⟨rfl, Ex.refl _⟩
                · intro L774 w775 hi776
                  have hE777 := hi776.ex
                  have hE777z := Ex.size hE777
                  obtain ⟨_, _, _, hx778, -, -, -, rfl⟩ := hi776.dep 1 43 rfl rfl
                  exact OpR.skip rfl rfl hx778 hb748 ⟨rfl, Ex.refl _⟩
                · intro L779 w780 hi781
                  have hE782 := hi781.ex
                  have hE782z := Ex.size hE782
                  obtain ⟨_, _, _, hx783, -, -, -, rfl⟩ := hi781.dep 1 43 rfl rfl
                  exact OpR.skip rfl rfl hx783 hb748 ⟨rfl, Ex.refl _⟩
                · intro L784 w785 hi786
                  have hE787 := hi786.ex
                  have hE787z := Ex.size hE787
                  obtain ⟨_, _, _, hx788, -, -, -, rfl⟩ := hi786.dep 1 43 rfl rfl
                  exact OpR.skip rfl rfl hx788 hb748 ⟨rfl, Ex.refl _⟩
                · intro L789 w790 hi791
                  have hE792 := hi791.ex
                  have hE792z := Ex.size hE792
                  obtain ⟨_, _, _, hx793, -, -, -, rfl⟩ := hi791.dep 1 43 rfl rfl
                  exact OpR.skip rfl rfl hx793 hb748 ⟨rfl, Ex.refl _⟩
                · intro L794 w795 hi796
                  have hE797 := hi796.ex
                  have hE797z := Ex.size hE797
                  obtain ⟨_, _, _, hx798, -, -, -, rfl⟩ := hi796.dep 8 50 rfl rfl
                  obtain ⟨_, _, _, hx799, -, -, -, rfl⟩ := hi796.dep 1 43 rfl rfl
                  exact OpR.op' rfl (Yl.sameI (yl_pick_t rfl hx799 hb748 rfl ⟨fun _ _ => rfl, rfl⟩))
                · intro L800 w801 hi802
                  have hE803 := hi802.ex
                  have hE803z := Ex.size hE803
                  obtain ⟨_, _, _, hx804, -, -, -, rfl⟩ := hi802.dep 9 51 rfl rfl
                  exact OpR.op' rfl (Yl.sameI (yl_assign rfl hx804 ⟨fun _ _ => rfl, rfl⟩))
                · intro fl808 fh809 L805 w806 hp807
                  have hE810 := hp807.ex
                  have hE810z := Ex.size hE810
                  have hx811 := hp807.old 0 _ rfl rfl
                  have hx812 := hp807.old 1 _ rfl rfl
                  have hx813 := hp807.old 5 _ rfl rfl
                  have hx814 := hp807.old 7 _ rfl rfl
                  have hx815 := hp807.old 19 _ rfl rfl
                  have hx816 := hp807.old 20 _ rfl rfl
                  have hx817 := hp807.old 21 _ rfl rfl
                  have hx818 := hp807.old 22 _ rfl rfl
                  have hx819 := hp807.old 25 _ rfl rfl
                  have hx820 := hp807.old 26 _ rfl rfl
                  have hx821 := hp807.old 27 _ rfl rfl
                  have hx822 := hp807.old 28 _ rfl rfl
                  have hx823 := hp807.old 29 _ rfl rfl
                  have hx824 := hp807.old 30 _ rfl rfl
                  have hx825 := hp807.old 31 _ rfl rfl
                  have hx826 := hp807.old 32 _ rfl rfl
                  have hx827 := hp807.old 33 _ rfl rfl
                  have hx828 := hp807.old 34 _ rfl rfl
                  obtain ⟨_, hx829, rfl⟩ := hp807.new 2 44 rfl rfl
                  obtain ⟨_, hx830, rfl⟩ := hp807.new 3 45 rfl rfl
                  obtain ⟨_, hx831, rfl⟩ := hp807.new 4 46 rfl rfl
                  obtain ⟨_, hx832, rfl⟩ := hp807.new 5 47 rfl rfl
                  obtain ⟨_, hx833, rfl⟩ := hp807.new 6 48 rfl rfl
                  obtain ⟨_, hx834, rfl⟩ := hp807.new 7 49 rfl rfl
                  obtain ⟨_, hx835, rfl⟩ := hp807.new 8 50 rfl rfl
                  obtain ⟨_, hx836, rfl⟩ := hp807.new 10 6 rfl rfl
                  refine SeqR.done ?_
                  refine bn ?_
                  refine tn ?_
                  refine CW.sub (Sub.cons (d := 0) hx811 (Sub.cons (d := 1) hx812 (Sub.cons (d := 5) hx813 (Sub.cons (d := 6) hx836 (Sub.cons (d := 7) hx814 (Sub.cons (d := 19) hx815 (Sub.cons (d := 20) hx816 (Sub.cons (d := 21) hx817 (Sub.cons (d := 22) hx818 (Sub.cons (d := 25) hx819 (Sub.cons (d := 26) hx820 (Sub.cons (d := 27) hx821 (Sub.cons (d := 28) hx822 (Sub.cons (d := 29) hx823 (Sub.cons (d := 30) hx824 (Sub.cons (d := 31) hx825 (Sub.cons (d := 32) hx826 (Sub.cons (d := 33) hx827 (Sub.cons (d := 34) hx828 (Sub.cons (d := 44) hx829 (Sub.cons (d := 45) hx830 (Sub.cons (d := 46) hx831 (Sub.cons (d := 47) hx832 (Sub.cons (d := 48) hx833 (Sub.cons (d := 49) hx834 (Sub.cons (d := 50) hx835 (Sub.nil _))))))))))))))))))))))))))) ?_
                  refine CW.region ?_
                  refine SeqR.d1 rfl rfl rfl (yl_move rfl rfl ?_)
                  refine SeqR.d1 rfl rfl rfl (yl_inc rfl rfl rfl (by omega) ?_)
                  refine SeqR.d1 rfl rfl rfl (yl_assign rfl rfl ?_)
                  refine SeqR.done ?_
                  refine tn ?_
                  have hB837 : B_s_l3Bytes_1 p_s p_more k5 k715 (x716) = .cont (true) := by simp only [B_s_l3Bytes_1, hb21, hb714, hb748, cond_true, cond_false, loopE_done, loopE_ret]
                  have q838 := Ex.trans hf745 hE810
                  exact ⟨p_more.length - (k715 + 1), by omega, k715 + 1, true, rfl, hlt747, (by omega), rfl, rfl, rfl, rfl, rfl, rfl, rfl, rfl, rfl, rfl, rfl, rfl, rfl, rfl, rfl, rfl, rfl, rfl, rfl, q838, (loopM.cont hlt747 hB837).symm.trans hI724⟩
              · skip
                refine CW.drawsI 11 (vgetI [DetI (.bool (x716)), DetI (.bool (x716)), DetI (.string (bs (p_s))), DetI (.int .i64 ((k5 : Int))), DetI (.int .u8 (((p_s.getD k5 0).toNat : Int))), DetI (.string (bs (p_more))), DetI (.int .i64 ((k715 : Int))), DetI (.int .u8 (((p_more.getD k715 0).toNat : Int))), DetI (.bool (decide (((p_s.getD k5 0).toNat : Int) = ((p_more.getD k715 0).toNat : Int)))), DetI (.bool (decide (((p_s.getD k5 0).toNat : Int) = ((p_more.getD k715 0).toNat : Int)))), DetI (.bool (decide (((p_s.getD k5 0).toNat : Int) = ((p_more.getD k715 0).toNat : Int))))]) Try.follows rfl rfl rfl rfl rfl rfl (vgetI_stable ⟨StableI.det _, StableI.det _, StableI.det _, StableI.det _, StableI.det _, StableI.det _, StableI.det _, StableI.det _, StableI.det _, StableI.det _, StableI.det _, trivial⟩) ⟨?_, ?_, ?_, ?_, ?_, ?_, ?_, ?_, ?_, ?_, ?_, trivial⟩ ?_
                · intro L839 w840 hi841
                  have hE842 := hi841.ex
                  have hE842z := Ex.size hE842
                  have hx843 := hi841.old 6 _ rfl rfl
                  exact OpR.op' rfl (Yl.sameI (yl_move rfl hx843 ⟨fun _ _ => rfl, rfl⟩))
                · intro L844 w845 hi846
                  have hE847 := hi846.ex
                  have hE847z := Ex.size hE847
                  obtain ⟨_, _, _, hx848, -, -, -, rfl⟩ := hi846.dep 0 42 rfl rfl
                  exact OpR.op' rfl (Yl.sameI (yl_move rfl hx848 ⟨fun _ _ => rfl, rfl⟩))
                · intro L849 w850 hi851
                  have hE852 := hi851.ex
                  have hE852z := Ex.size hE852
                  obtain ⟨_, _, _, hx853, -, -, -, rfl⟩ := hi851.dep 1 43 rfl rfl
                  have hx854 := hi851.old 0 _ rfl rfl
                  exact OpR.want rfl rfl hx853 hb748 (Yl.sameI (yl_move rfl hx854 ⟨fun _ _ => rfl, rfl⟩))
                · intro L855 w856 hi857
                  have hE858 := hi857.ex
                  have hE858z := Ex.size hE858
                  obtain ⟨_, _, _, hx859, -, -, -, rfl⟩ := hi857.dep 1 43 rfl rfl
                  have hx860 := hi857.old 5 _ rfl rfl
                  exact OpR.want rfl rfl hx859 hb748 (Yl.sameI (yl_move rfl hx860 ⟨fun _ _ => rfl, rfl⟩))
                · intro L861 w862 hi863
                  have hE864 := hi863.ex
                  have hE864z := Ex.size hE864
                  obtain ⟨_, _, _, hx865, -, -, -, rfl⟩ := hi863.dep 1 43 rfl rfl
                  obtain ⟨_, _, _, hx866, -, -, -, rfl⟩ := hi863.dep 2 44 rfl rfl
                  obtain ⟨_, _, _, hx867, -, -, -, rfl⟩ := hi863.dep 3 45 rfl rfl
                  exact OpR.want rfl rfl hx865 hb748 (Yl.sameI (yl_sindexN Try.un9 (a := p_s) rfl hx866 hx867 (by first | omega | assumption | (simp only [IntKind.wrap_i64] at *; omega)) ⟨fun _ _ => rfl, rfl⟩))
                · intro L868 w869 hi870
                  have hE871 := hi870.ex
                  have hE871z := Ex.size hE871
                  obtain ⟨_, _, _, hx872, -, -, -, rfl⟩ := hi870.dep 1 43 rfl rfl
                  have hx873 := hi870.old 1 _ rfl rfl
                  exact OpR.want rfl rfl hx872 hb748 (Yl.sameI (yl_move rfl hx873 ⟨fun _ _ => rfl, rfl⟩))
                · intro L874 w875 hi876
                  have hE877 := hi876.ex
                  have hE877z := Ex.size hE877
                  obtain ⟨_, _, _, hx878, -, -, -, rfl⟩ := hi876.dep 1 43 rfl rfl
                  have hx879 := hi876.old 7 _ rfl rfl
                  exact OpR.want rfl rfl hx878 hb748 (Yl.sameI (yl_move rfl hx879 ⟨fun _ _ => rfl, rfl⟩))
                · intro L880 w881 hi882
                  have hE883 := hi882.ex
                  have hE883z := Ex.size hE883
                  obtain ⟨_, _, _, hx884, -, -, -, rfl⟩ := hi882.dep 1 43 rfl rfl
                  obtain ⟨_, _, _, hx885, -, -, -, rfl⟩ := hi882.dep 5 47 rfl rfl
                  obtain ⟨_, _, _, hx886, -, -, -, rfl⟩ := hi882.dep 6 48 rfl rfl
                  exact OpR.want rfl rfl hx884 hb748 (Yl.sameI (yl_sindexN Try.un9 (a := p_more) rfl hx885 hx886 (by first | omega | assumption | (simp only [IntKind.wrap_i64] at *; omega)) ⟨fun _ _ => rfl, rfl⟩))
                · intro L887 w888 hi889
                  have hE890 := hi889.ex
                  have hE890z := Ex.size hE890
                  obtain ⟨_, _, _, hx891, -, -, -, rfl⟩ := hi889.dep 1 43 rfl rfl
                  obtain ⟨_, _, _, hx892, -, -, -, rfl⟩ := hi889.dep 4 46 rfl rfl
                  obtain ⟨_, _, _, hx893, -, -, -, rfl⟩ := hi889.dep 7 49 rfl rfl
                  exact OpR.want rfl rfl hx891 hb748 (Yl.sameI (yl_eql rfl hx892 hx893 ⟨fun _ _ => rfl, rfl⟩))
                · intro L894 w895 hi896
                  have hE897 := hi896.ex
                  have hE897z := Ex.size hE897
                  obtain ⟨_, _, _, hx898, -, -, -, rfl⟩ := hi896.dep 8 50 rfl rfl
                  obtain ⟨_, _, _, hx899, -, -, -, rfl⟩ := hi896.dep 1 43 rfl rfl
                  exact OpR.op' rfl (Yl.sameI (yl_pick_f rfl hx899 hb748 hx898 ⟨fun _ _ => rfl, rfl⟩))
                · intro L900 w901 hi902
                  have hE903 := hi902.ex
                  have hE903z := Ex.size hE903
                  obtain ⟨_, _, _, hx904, -, -, -, rfl⟩ := hi902.dep 9 51 rfl rfl
                  exact OpR.op' rfl (Yl.sameI (yl_assign rfl hx904 ⟨fun _ _ => rfl, rfl⟩))
                · intro fl908 fh909 L905 w906 hp907
                  have hE910 := hp907.ex
                  have hE910z := Ex.size hE910
                  have hx911 := hp907.old 0 _ rfl rfl
                  have hx912 := hp907.old 1 _ rfl rfl
                  have hx913 := hp907.old 5 _ rfl rfl
                  have hx914 := hp907.old 7 _ rfl rfl
                  have hx915 := hp907.old 19 _ rfl rfl
                  have hx916 := hp907.old 20 _ rfl rfl
                  have hx917 := hp907.old 21 _ rfl rfl
                  have hx918 := hp907.old 22 _ rfl rfl
                  have hx919 := hp907.old 25 _ rfl rfl
                  have hx920 := hp907.old 26 _ rfl rfl
                  have hx921 := hp907.old 27 _ rfl rfl
                  have hx922 := hp907.old 28 _ rfl rfl
                  have hx923 := hp907.old 29 _ rfl rfl
                  have hx924 := hp907.old 30 _ rfl rfl
                  have hx925 := hp907.old 31 _ rfl rfl
                  have hx926 := hp907.old 32 _ rfl rfl
                  have hx927 := hp907.old 33 _ rfl rfl
                  have hx928 := hp907.old 34 _ rfl rfl
                  obtain ⟨_, hx929, rfl⟩ := hp907.new 2 44 rfl rfl
                  obtain ⟨_, hx930, rfl⟩ := hp907.new 3 45 rfl rfl
                  obtain ⟨_, hx931, rfl⟩ := hp907.new 4 46 rfl rfl
                  obtain ⟨_, hx932, rfl⟩ := hp907.new 5 47 rfl rfl
                  obtain ⟨_, hx933, rfl⟩ := hp907.new 6 48 rfl rfl
                  obtain ⟨_, hx934, rfl⟩ := hp907.new 7 49 rfl rfl
                  obtain ⟨_, hx935, rfl⟩ := hp907.new 8 50 rfl rfl
                  obtain ⟨_, hx936, rfl⟩ := hp907.new 10 6 rfl rfl
                  refine SeqR.done ?_
                  refine bn ?_
                  refine tn ?_
                  refine CW.sub (Sub.cons (d := 0) hx911 (Sub.cons (d := 1) hx912 (Sub.cons (d := 5) hx913 (Sub.cons (d := 6) hx936 (Sub.cons (d := 7) hx914 (Sub.cons (d := 19) hx915 (Sub.cons (d := 20) hx916 (Sub.cons (d := 21) hx917 (Sub.cons (d := 22) hx918 (Sub.cons (d := 25) hx919 (Sub.cons (d := 26) hx920 (Sub.cons (d := 27) hx921 (Sub.cons (d := 28) hx922 (Sub.cons (d := 29) hx923 (Sub.cons (d := 30) hx924 (Sub.cons (d := 31) hx925 (Sub.cons (d := 32) hx926 (Sub.cons (d := 33) hx927 (Sub.cons (d := 34) hx928 (Sub.cons (d := 44) hx929 (Sub.cons (d := 45) hx930 (Sub.cons (d := 46) hx931 (Sub.cons (d := 47) hx932 (Sub.cons (d := 48) hx933 (Sub.cons (d := 49) hx934 (Sub.cons (d := 50) hx935 (Sub.nil _))))))))))))))))))))))))))) ?_
                  refine CW.region ?_
                  refine SeqR.d1 rfl rfl rfl (yl_move rfl rfl ?_)
                  refine SeqR.d1 rfl rfl rfl (yl_inc rfl rfl rfl (by omega) ?_)
                  refine SeqR.d1 rfl rfl rfl (yl_assign rfl rfl ?_)
                  refine SeqR.done ?_
                  refine tn ?_
                  have hB937 : B_s_l3Bytes_1 p_s p_more k5 k715 (x716) = .cont (decide (((p_s.getD k5 0).toNat : Int) = ((p_more.getD k715 0).toNat : Int))) := by simp only [B_s_l3Bytes_1, hb21, hb714, hb748, cond_true, cond_false, loopE_done, loopE_ret]
                  have q938 := Ex.trans hf745 hE910
                  exact ⟨p_more.length - (k715 + 1), by omega, k715 + 1, decide (((p_s.getD k5 0).toNat : Int) = ((p_more.getD k715 0).toNat : Int)), rfl, hlt747, (by omega), rfl, rfl, rfl, rfl, rfl, rfl, rfl, rfl, rfl, rfl, rfl, rfl, rfl, rfl, rfl, rfl, rfl, rfl, rfl, q938, (loopM.cont hlt747 hB937).symm.trans hI724⟩
            · skip
              refine CW.seq ?_
              refine CW.seq ?_
              refine CW.region ?_
              refine SeqR.d1 rfl rfl rfl (yl_move rfl rfl ?_)
              refine SeqR.d1 rfl rfl rfl (yl_move rfl rfl ?_)
              refine SeqR.d1 rfl rfl rfl (yl_slen Try.un9 (a := p_more) rfl rfl ?_)
              refine SeqR.d1 rfl rfl rfl (yl_lss rfl rfl rfl ?_)
              refine SeqR.done ?_
              refine tn ?_
              refine CW.cond_f rfl (lt_f hlt747) ?_
              refine CW.exit ?_
              refine tx ?_
              refine tx ?_
              have hL939 : loopM (B_s_l3Bytes_1 p_s p_more k5) (p_more.length - 0) 0 (decide (((p_s.getD k5 0).toNat : Int) ≤ 57)) = .done (x716) := hI724.symm.trans (loopM.stop hlt747)
              refine bx ?_
              refine tn ?_
              refine CW.seq ?_
              refine CW.region ?_
              refine SeqR.d1 rfl rfl rfl (yl_move rfl rfl ?_)
              refine SeqR.d1 rfl rfl rfl (yl_not rfl rfl ?_)
              refine SeqR.done ?_
              refine tn ?_
              refine bcase (x716) (fun hb940 => ?_) (fun hb940 => ?_)
              · skip
                refine CW.cond_f rfl (not_t hb940) ?_
                refine CW.skip ?_
                refine bn ?_
                refine tn ?_
                refine CW.region ?_
                refine SeqR.d1 rfl rfl rfl (yl_move rfl rfl ?_)
                refine SeqR.d1 rfl rfl rfl (yl_inc rfl rfl rfl (by omega) ?_)
                refine SeqR.d1 rfl rfl rfl (yl_assign rfl rfl ?_)
                refine SeqR.done ?_
                refine tn ?_
                have hB941 : B_s_l3Bytes_0 p_s p_more k5 () = .cont () := by simp only [B_s_l3Bytes_0, hb21, hb714, hb940, hL939, cond_true, cond_false, loopE_done, loopE_ret]
                exact ⟨p_s.length - (k5 + 1), by omega, k5 + 1, rfl, hlt20, (by omega), rfl, rfl, rfl, hf745, (loopM.cont hlt20 hB941).symm.trans hI13⟩
              · skip
                refine CW.cond_t rfl (not_f hb940) ?_
                refine CW.seq ?_
                refine CW.region ?_
                refine SeqR.d1 rfl rfl rfl (yl_assign rfl rfl ?_)
                refine SeqR.done ?_
                refine tn ?_
                refine CW.ret ?_
                refine br ?_
                refine tr ?_
                refine tr ?_
                have hB943 : B_s_l3Bytes_0 p_s p_more k5 () = .ret false := by simp only [B_s_l3Bytes_0, hb21, hb714, hb940, hL939, cond_true, cond_false, loopE_done, loopE_ret]
                have hL942 : loopM (B_s_l3Bytes_0 p_s p_more) (p_s.length - 0) 0 () = .ret false := hI13.symm.trans (loopM.ret hlt20 hB943)
                refine br ?_
                refine tr ?_
                refine rr rfl (.cons rfl .nil) ?_
                have hM944 : (s_l3Bytes p_s p_more) = (false) := by simp only [s_l3Bytes, hb21, hb714, hb940, hL939, hL942, cond_true, cond_false, loopE_done, loopE_ret]
                rw [hM944]
                exact ⟨rfl, hf745⟩
        · have hb714p := dec_f hb714
          refine SeqR.z rfl rfl rfl rfl rfl hb714 ?_
          refine SeqR.z rfl rfl rfl rfl rfl hb714 ?_
          refine SeqR.z rfl rfl rfl rfl rfl hb714 ?_
          refine SeqR.z rfl rfl rfl rfl rfl hb714 ?_
          refine SeqR.y rfl rfl rfl rfl rfl rfl (yl_pick_f rfl rfl hb714 rfl ?_)
          refine SeqR.d1 rfl rfl rfl (yl_pick_f rfl rfl rfl rfl ?_)
          refine SeqR.d1 rfl rfl rfl (yl_assign rfl rfl ?_)
          refine SeqR.done ?_
          refine tn ?_
          refine CW.seq ?_
          refine CW.seq ?_
          refine CW.region ?_
          refine SeqR.d1 rfl rfl rfl (yl_assign rfl rfl ?_)
          refine SeqR.done ?_
          refine tn ?_
          refine CW.block ?_
          refine CW.loop (fun m947 L948 w949 => ∃ (k945 : Nat) (x946 : Bool), m947 = p_more.length - k945 ∧ k945 ≤ p_more.length ∧ w11.heap.size ≤ w949.heap.size ∧ lkp L948 0 = some (.string (bs (p_s))) ∧ lkp L948 1 = some (.string (bs (p_more))) ∧ lkp L948 5 = some (.int .i64 ((k5 : Int))) ∧ lkp L948 6 = some (.bool (x946)) ∧ lkp L948 7 = some (.int .i64 ((k945 : Int))) ∧ lkp L948 19 = some (undef) ∧ lkp L948 20 = some (undef) ∧ lkp L948 21 = some (undef) ∧ lkp L948 22 = some (undef) ∧ lkp L948 25 = some (.string (bs (p_s))) ∧ lkp L948 26 = some (.int .i64 ((k5 : Int))) ∧ lkp L948 27 = some (.int .u8 (((p_s.getD k5 0).toNat : Int))) ∧ lkp L948 28 = some (.bool (decide (48 ≤ ((p_s.getD k5 0).toNat : Int)))) ∧ lkp L948 29 = some (.bool (decide (48 ≤ ((p_s.getD k5 0).toNat : Int)))) ∧ lkp L948 30 = some (undef) ∧ lkp L948 31 = some (undef) ∧ lkp L948 32 = some (undef) ∧ lkp L948 33 = some (undef) ∧ lkp L948 34 = some (.bool (false)) ∧ Ex w w949 ∧ loopM (B_s_l3Bytes_1 p_s p_more k5) (p_more.length - k945) k945 (x946) = loopM (B_s_l3Bytes_1 p_s p_more k5) (p_more.length - 0) 0 (false)) (p_more.length - 0) ?_ ?_
          · exact ⟨0, false, rfl, (by omega), Nat.le_refl _, rfl, rfl, rfl, rfl, rfl, rfl, rfl, rfl, rfl, rfl, rfl, rfl, rfl, rfl, rfl, rfl, rfl, rfl, rfl, hf18, rfl⟩
          · rintro m950 L951 w952 ⟨k945, x946, rfl, hk953, hsz955, hl956, hl957, hl958, hl959, hl960, hl961, hl962, hl963, hl964, hl965, hl966, hl967, hl968, hl969, hl970, hl971, hl972, hl973, hl974, hf975, hI954⟩
            refine CW.sub (Sub.cons hl956 (Sub.cons hl957 (Sub.cons hl958 (Sub.cons hl959 (Sub.cons hl960 (Sub.cons hl961 (Sub.cons hl962 (Sub.cons hl963 (Sub.cons hl964 (Sub.cons hl965 (Sub.cons hl966 (Sub.cons hl967 (Sub.cons hl968 (Sub.cons hl969 (Sub.cons hl970 (Sub.cons hl971 (Sub.cons hl972 (Sub.cons hl973 (Sub.cons hl974 (Sub.nil _)))))))))))))))))))) ?_
            have hf975z := Ex.size hf975
            have hbg976 : p_more.length ≤ 1073741824 := o2
            rcases Nat.lt_or_ge k945 p_more.length with hlt977 | hlt977
            · skip
              refine CW.seq ?_
              refine CW.seq ?_
              refine CW.region ?_
              refine SeqR.d1 rfl rfl rfl (yl_move rfl rfl ?_)
              refine SeqR.d1 rfl rfl rfl (yl_move rfl rfl ?_)
              refine SeqR.d1 rfl rfl rfl (yl_slen Try.un9 (a := p_more) rfl rfl ?_)
              refine SeqR.d1 rfl rfl rfl (yl_lss rfl rfl rfl ?_)
              refine SeqR.done ?_
              refine tn ?_
              refine CW.cond_t rfl (lt_t hlt977) ?_
              refine CW.skip ?_
              refine tn ?_
              refine CW.seq ?_
              refine CW.block ?_
              refine bcase (x946) (fun hb978 => ?_) (fun hb978 => ?_)
              · skip
                refine CW.drawsI 11 (vgetI [DetI (.bool (x946)), DetI (.bool (x946)), DetI (undef), DetI (undef), DetI (undef), DetI (undef), DetI (undef), DetI (undef), DetI (undef), DetI (.bool (true)), DetI (.bool (true))]) Try.follows rfl rfl rfl rfl rfl rfl (vgetI_stable ⟨StableI.det _, StableI.det _, StableI.det _, StableI.det _, StableI.det _, StableI.det _, StableI.det _, StableI.det _, StableI.det _, StableI.det _, StableI.det _, trivial⟩) ⟨?_, ?_, ?_, ?_, ?_, ?_, ?_, ?_, ?_, ?_, ?_, trivial⟩ ?_
                · intro L979 w980 hi981
                  have hE982 := hi981.ex
                  have hE982z := Ex.size hE982
                  have hx983 := hi981.old 6 _ rfl rfl
                  exact OpR.op' rfl (Yl.sameI (yl_move rfl hx983 ⟨fun _ _ => rfl, rfl⟩))
                · intro L984 w985 hi986
                  have hE987 := hi986.ex
                  have hE987z := Ex.size hE987
                  obtain ⟨_, _, _, hx988, -, -, -, rfl⟩ := hi986.dep 0 42 rfl rfl
                  exact OpR.op' rfl (Yl.sameI (yl_move rfl hx988 ⟨fun _ _ => rfl, rfl⟩))
                · intro L989 w990 hi991
                  have hE992 := hi991.ex
                  have hE992z := Ex.size hE992
                  obtain ⟨_, _, _, hx993, -, -, -, rfl⟩ := hi991.dep 1 43 rfl rfl
                  exact OpR.skip rfl rfl hx993 hb978 ⟨rfl, Ex.refl _⟩
                · intro L994 w995 hi996
                  have hE997 := hi996.ex
                  have hE997z := Ex.size hE997
                  obtain ⟨_, _, _, hx998, -, -, -, rfl⟩ := hi996.dep 1 43 rfl rfl
                  exact OpR.skip rfl rfl hx998 hb978 ⟨rfl, Ex.refl _⟩
                · intro L999 w1000 hi1001
                  have hE1002 := hi1001.ex
                  have hE1002z := Ex.size hE1002
                  obtain ⟨_, _, _, hx1003, -, -, -, rfl⟩ := hi1001.dep 1 43 rfl rfl
                  exact OpR.skip rfl rfl hx1003 hb978 ⟨rfl, Ex.refl _⟩
                · intro L1004 w1005 hi1006
                  have hE1007 := hi1006.ex
                  have hE1007z := Ex.size hE1007
                  obtain ⟨_, _, _, hx1008, -, -, -, rfl⟩ := hi1006.dep 1 43 rfl rfl
                  exact OpR.skip rfl rfl hx1008 hb978 ⟨rfl, Ex.refl _⟩
                · intro L1009 w1010 hi1011
                  have hE1012 := hi1011.ex
                  have hE1012z := Ex.size hE1012
                  obtain ⟨_, _, _, hx1013, -, -, -, rfl⟩ := hi1011.dep 1 43 rfl rfl
                  exact OpR.skip rfl rfl hx1013 hb978 ⟨rfl, Ex.refl _⟩
                · intro L1014 w1015 hi1016
                  have hE1017 := hi1016.ex
                  have hE1017z := Ex.size hE1017
                  obtain ⟨_, _, _, hx1018, -, -, -, rfl⟩ := hi1016.dep 1 43 rfl rfl
                  exact OpR.skip rfl rfl hx1018 hb978 ⟨rfl, Ex.refl _⟩
                · intro L1019 w1020 hi1021
                  have hE1022 := hi1021.ex
                  have hE1022z := Ex.size hE1022
                  obtain ⟨_, _, _, hx1023, -, -, -, rfl⟩ := hi1021.dep 1 43 rfl rfl
                  exact OpR.skip rfl rfl hx1023 hb978 ⟨rfl, Ex.refl _⟩
                · intro L1024 w1025 hi1026
                  have hE1027 := hi1026.ex
                  have hE1027z := Ex.size hE1027
                  obtain ⟨_, _, _, hx1028, -, -, -, rfl⟩ := hi1026.dep 8 50 rfl rfl
                  obtain ⟨_, _, _, hx1029, -, -, -, rfl⟩ := hi1026.dep 1 43 rfl rfl
                  exact OpR.op' rfl (Yl.sameI (yl_pick_t rfl hx1029 hb978 rfl ⟨fun _ _ => rfl, rfl⟩))
                · intro L1030 w1031 hi1032
                  have hE1033 := hi1032.ex
                  have hE1033z := Ex.size hE1033
                  obtain ⟨_, _, _, hx1034, -, -, -, rfl⟩ := hi1032.dep 9 51 rfl rfl
                  exact OpR.op' rfl (Yl.sameI (yl_assign rfl hx1034 ⟨fun _ _ => rfl, rfl⟩))
                · intro fl1038 fh1039 L1035 w1036 hp1037
                  have hE1040 := hp1037.ex
                  have hE1040z := Ex.size hE1040
                  have hx1041 := hp1037.old 0 _ rfl rfl
                  have hx1042 := hp1037.old 1 _ rfl rfl
                  have hx1043 := hp1037.old 5 _ rfl rfl
                  have hx1044 := hp1037.old 7 _ rfl rfl
                  have hx1045 := hp1037.old 19 _ rfl rfl
                  have hx1046 := hp1037.old 20 _ rfl rfl
                  have hx1047 := hp1037.old 21 _ rfl rfl
                  have hx1048 := hp1037.old 22 _ rfl rfl
                  have hx1049 := hp1037.old 25 _ rfl rfl
                  have hx1050 := hp1037.old 26 _ rfl rfl
                  have hx1051 := hp1037.old 27 _ rfl rfl
                  have hx1052 := hp1037.old 28 _ rfl rfl
                  have hx1053 := hp1037.old 29 _ rfl rfl
                  have hx1054 := hp1037.old 30 _ rfl rfl
                  have hx1055 := hp1037.old 31 _ rfl rfl
                  have hx1056 := hp1037.old 32 _ rfl rfl
                  have hx1057 := hp1037.old 33 _ rfl rfl
                  have hx1058 := hp1037.old 34 _ rfl rfl
                  obtain ⟨_, hx1059, rfl⟩ := hp1037.new 2 44 rfl rfl
                  obtain ⟨_, hx1060, rfl⟩ := hp1037.new 3 45 rfl rfl
                  obtain ⟨_, hx1061, rfl⟩ := hp1037.new 4 46 rfl rfl
                  obtain ⟨_, hx1062, rfl⟩ := hp1037.new 5 47 rfl rfl
                  obtain ⟨_, hx1063, rfl⟩ := hp1037.new 6 48 rfl rfl
                  obtain ⟨_, hx1064, rfl⟩ := hp1037.new 7 49 rfl rfl
                  obtain ⟨_, hx1065, rfl⟩ := hp1037.new 8 50 rfl rfl
                  obtain ⟨_, hx1066, rfl⟩ := hp1037.new 10 6 rfl rfl
                  refine SeqR.done ?_
                  refine bn ?_
                  refine tn ?_
                  refine CW.sub (Sub.cons (d := 0) hx1041 (Sub.cons (d := 1) hx1042 (Sub.cons (d := 5) hx1043 (Sub.cons (d := 6) hx1066 (Sub.cons (d := 7) hx1044 (Sub.cons (d := 19) hx1045 (Sub.cons (d := 20) hx1046 (Sub.cons (d := 21) hx1047 (Sub.cons (d := 22) hx1048 (Sub.cons (d := 25) hx1049 (Sub.cons (d := 26) hx1050 (Sub.cons (d := 27) hx1051 (Sub.cons (d := 28) hx1052 (Sub.cons (d := 29) hx1053 (Sub.cons (d := 30) hx1054 (Sub.cons (d := 31) hx1055 (Sub.cons (d := 32) hx1056 (Sub.cons (d := 33) hx1057 (Sub.cons (d := 34) hx1058 (Sub.cons (d := 44) hx1059 (Sub.cons (d := 45) hx1060 (Sub.cons (d := 46) hx1061 (Sub.cons (d := 47) hx1062 (Sub.cons (d := 48) hx1063 (Sub.cons (d := 49) hx1064 (Sub.cons (d := 50) hx1065 (Sub.nil _))))))))))))))))))))))))))) ?_
                  refine CW.region ?_
                  refine SeqR.d1 rfl rfl rfl (yl_move rfl rfl ?_)
                  refine SeqR.d1 rfl rfl rfl (yl_inc rfl rfl rfl (by omega) ?_)
                  refine SeqR.d1 rfl rfl rfl (yl_assign rfl rfl ?_)
                  refine SeqR.done ?_
                  refine tn ?_
                  have hB1067 : B_s_l3Bytes_1 p_s p_more k5 k945 (x946) = .cont (true) := by simp only [B_s_l3Bytes_1, hb21, hb714, hb978, cond_true, cond_false, loopE_done, loopE_ret]
                  have q1068 := Ex.trans hf975 hE1040
                  exact ⟨p_more.length - (k945 + 1), by omega, k945 + 1, true, rfl, hlt977, (by omega), rfl, rfl, rfl, rfl, rfl, rfl, rfl, rfl, rfl, rfl, rfl, rfl, rfl, rfl, rfl, rfl, rfl, rfl, rfl, q1068, (loopM.cont hlt977 hB1067).symm.trans hI954⟩
              · skip
                refine CW.drawsI 11 (vgetI [DetI (.bool (x946)), DetI (.bool (x946)), DetI (.string (bs (p_s))), DetI (.int .i64 ((k5 : Int))), DetI (.int .u8 (((p_s.getD k5 0).toNat : Int))), DetI (.string (bs (p_more))), DetI (.int .i64 ((k945 : Int))), DetI (.int .u8 (((p_more.getD k945 0).toNat : Int))), DetI (.bool (decide (((p_s.getD k5 0).toNat : Int) = ((p_more.getD k945 0).toNat : Int)))), DetI (.bool (decide (((p_s.getD k5 0).toNat : Int) = ((p_more.getD k945 0).toNat : Int)))), DetI (.bool (decide (((p_s.getD k5 0).toNat : Int) = ((p_more.getD k945 0).toNat : Int))))]) Try.follows rfl rfl rfl rfl rfl rfl (vgetI_stable ⟨StableI.det _, StableI.det _, StableI.det _, StableI.det _, StableI.det _, StableI.det _, StableI.det _, StableI.det _, StableI.det _, StableI.det _, StableI.det _, trivial⟩) ⟨?_, ?_, ?_, ?_, ?_, ?_, ?_, ?_, ?_, ?_, ?_, trivial⟩ ?_
                · intro L1069 w1070 hi1071
                  have hE1072 := hi1071.ex
                  have hE1072z := Ex.size hE1072
                  have hx1073 := hi1071.old 6 _ rfl rfl
                  exact OpR.op' rfl (Yl.sameI (yl_move rfl hx1073 ⟨fun _ _ => rfl, rfl⟩))
                · intro L1074 w1075 hi1076
                  have hE1077 := hi1076.ex
                  have hE1077z := Ex.size hE1077
                  obtain ⟨_, _, _, hx1078, -, -, -, rfl⟩ := hi1076.dep 0 42 rfl rfl
                  exact OpR.op' rfl (Yl.sameI (yl_move rfl hx1078 ⟨fun _ _ => rfl, rfl⟩))
                · intro L1079 w1080 hi1081
                  have hE1082 := hi1081.ex
                  have hE1082z := Ex.size hE1082
                  obtain ⟨_, _, _, hx1083, -, -, -, rfl⟩ := hi1081.dep 1 43 rfl rfl
                  have hx1084 := hi1081.old 0 _ rfl rfl
                  exact OpR.want rfl rfl hx1083 hb978 (Yl.sameI (yl_move rfl hx1084 ⟨fun _ _ => rfl, rfl⟩))
                · intro L1085 w1086 hi1087
                  have hE1088 := hi1087.ex
                  have hE1088z := Ex.size hE1088
                  obtain ⟨_, _, _, hx1089, -, -, -, rfl⟩ := hi1087.dep 1 43 rfl rfl
                  have hx1090 := hi1087.old 5 _ rfl rfl
                  exact OpR.want rfl rfl hx1089 hb978 (Yl.sameI (yl_move rfl hx1090 ⟨fun _ _ => rfl, rfl⟩))
                · intro L1091 w1092 hi1093
                  have hE1094 := hi1093.ex
                  have hE1094z := Ex.size hE1094
                  obtain ⟨_, _, _, hx1095, -, -, -, rfl⟩ := hi1093.dep 1 43 rfl rfl
                  obtain ⟨_, _, _, hx1096, -, -, -, rfl⟩ := hi1093.dep 2 44 rfl rfl
                  obtain ⟨_, _, _, hx1097, -, -, -, rfl⟩ := hi1093.dep 3 45 rfl rfl
                  exact OpR.want rfl rfl hx1095 hb978 (Yl.sameI (yl_sindexN Try.un9 (a := p_s) rfl hx1096 hx1097 (by first | omega | assumption | (simp only [IntKind.wrap_i64] at *; omega)) ⟨fun _ _ => rfl, rfl⟩))
                · intro L1098 w1099 hi1100
                  have hE1101 := hi1100.ex
                  have hE1101z := Ex.size hE1101
                  obtain ⟨_, _, _, hx1102, -, -, -, rfl⟩ := hi1100.dep 1 43 rfl rfl
                  have hx1103 := hi1100.old 1 _ rfl rfl
                  exact OpR.want rfl rfl hx1102 hb978 (Yl.sameI (yl_move rfl hx1103 ⟨fun _ _ => rfl, rfl⟩))
                · intro L1104 w1105 hi1106
                  have hE1107 := hi1106.ex
                  have hE1107z := Ex.size hE1107
                  obtain ⟨_, _, _, hx1108, -, -, -, rfl⟩ := hi1106.dep 1 43 rfl rfl
                  have hx1109 := hi1106.old 7 _ rfl rfl
                  exact OpR.want rfl rfl hx1108 hb978 (Yl.sameI (yl_move rfl hx1109 ⟨fun _ _ => rfl, rfl⟩))
                · intro L1110 w1111 hi1112
                  have hE1113 := hi1112.ex
                  have hE1113z := Ex.size hE1113
                  obtain ⟨_, _, _, hx1114, -, -, -, rfl⟩ := hi1112.dep 1 43 rfl rfl
                  obtain ⟨_, _, _, hx1115, -, -, -, rfl⟩ := hi1112.dep 5 47 rfl rfl
                  obtain ⟨_, _, _, hx1116, -, -, -, rfl⟩ := hi1112.dep 6 48 rfl rfl
                  exact OpR.want rfl rfl hx1114 hb978 (Yl.sameI (yl_sindexN Try.un9 (a := p_more) rfl hx1115 hx1116 (by first | omega | assumption | (simp only [IntKind.wrap_i64] at *; omega)) ⟨fun _ _ => rfl, rfl⟩))
                · intro L1117 w1118 hi1119
                  have hE1120 := hi1119.ex
                  have hE1120z := Ex.size hE1120
                  obtain ⟨_, _, _, hx1121, -, -, -, rfl⟩ := hi1119.dep 1 43 rfl rfl
                  obtain ⟨_, _, _, hx1122, -, -, -, rfl⟩ := hi1119.dep 4 46 rfl rfl
                  obtain ⟨_, _, _, hx1123, -, -, -, rfl⟩ := hi1119.dep 7 49 rfl rfl
                  exact OpR.want rfl rfl hx1121 hb978 (Yl.sameI (yl_eql rfl hx1122 hx1123 ⟨fun _ _ => rfl, rfl⟩))
                · intro L1124 w1125 hi1126
                  have hE1127 := hi1126.ex
                  have hE1127z := Ex.size hE1127
                  obtain ⟨_, _, _, hx1128, -, -, -, rfl⟩ := hi1126.dep 8 50 rfl rfl
                  obtain ⟨_, _, _, hx1129, -, -, -, rfl⟩ := hi1126.dep 1 43 rfl rfl
                  exact OpR.op' rfl (Yl.sameI (yl_pick_f rfl hx1129 hb978 hx1128 ⟨fun _ _ => rfl, rfl⟩))
                · intro L1130 w1131 hi1132
                  have hE1133 := hi1132.ex
                  have hE1133z := Ex.size hE1133
                  obtain ⟨_, _, _, hx1134, -, -, -, rfl⟩ := hi1132.dep 9 51 rfl rfl
                  exact OpR.op' rfl (Yl.sameI (yl_assign rfl hx1134 ⟨fun _ _ => rfl, rfl⟩))
                · intro fl1138 fh1139 L1135 w1136 hp1137
                  have hE1140 := hp1137.ex
                  have hE1140z := Ex.size hE1140
                  have hx1141 := hp1137.old 0 _ rfl rfl
                  have hx1142 := hp1137.old 1 _ rfl rfl
                  have hx1143 := hp1137.old 5 _ rfl rfl
                  have hx1144 := hp1137.old 7 _ rfl rfl
                  have hx1145 := hp1137.old 19 _ rfl rfl
                  have hx1146 := hp1137.old 20 _ rfl rfl
                  have hx1147 := hp1137.old 21 _ rfl rfl
                  have hx1148 := hp1137.old 22 _ rfl rfl
                  have hx1149 := hp1137.old 25 _ rfl rfl
                  have hx1150 := hp1137.old 26 _ rfl rfl
                  have hx1151 := hp1137.old 27 _ rfl rfl
                  have hx1152 := hp1137.old 28 _ rfl rfl
                  have hx1153 := hp1137.old 29 _ rfl rfl
                  have hx1154 := hp1137.old 30 _ rfl rfl
                  have hx1155 := hp1137.old 31 _ rfl rfl
                  have hx1156 := hp1137.old 32 _ rfl rfl
                  have hx1157 := hp1137.old 33 _ rfl rfl
                  have hx1158 := hp1137.old 34 _ rfl rfl
                  obtain ⟨_, hx1159, rfl⟩ := hp1137.new 2 44 rfl rfl
                  obtain ⟨_, hx1160, rfl⟩ := hp1137.new 3 45 rfl rfl
                  obtain ⟨_, hx1161, rfl⟩ := hp1137.new 4 46 rfl rfl
                  obtain ⟨_, hx1162, rfl⟩ := hp1137.new 5 47 rfl rfl
                  obtain ⟨_, hx1163, rfl⟩ := hp1137.new 6 48 rfl rfl
                  obtain ⟨_, hx1164, rfl⟩ := hp1137.new 7 49 rfl rfl
                  obtain ⟨_, hx1165, rfl⟩ := hp1137.new 8 50 rfl rfl
                  obtain ⟨_, hx1166, rfl⟩ := hp1137.new 10 6 rfl rfl
                  refine SeqR.done ?_
                  refine bn ?_
                  refine tn ?_
                  refine CW.sub (Sub.cons (d := 0) hx1141 (Sub.cons (d := 1) hx1142 (Sub.cons (d := 5) hx1143 (Sub.cons (d := 6) hx1166 (Sub.cons (d := 7) hx1144 (Sub.cons (d := 19) hx1145 (Sub.cons (d := 20) hx1146 (Sub.cons (d := 21) hx1147 (Sub.cons (d := 22) hx1148 (Sub.cons (d := 25) hx1149 (Sub.cons (d := 26) hx1150 (Sub.cons (d := 27) hx1151 (Sub.cons (d := 28) hx1152 (Sub.cons (d := 29) hx1153 (Sub.cons (d := 30) hx1154 (Sub.cons (d := 31) hx1155 (Sub.cons (d := 32) hx1156 (Sub.cons (d := 33) hx1157 (Sub.cons (d := 34) hx1158 (Sub.cons (d := 44) hx1159 (Sub.cons (d := 45) hx1160 (Sub.cons (d := 46) hx1161 (Sub.cons (d := 47) hx1162 (Sub.cons (d := 48) hx1163 (Sub.cons (d := 49) hx1164 (Sub.cons (d := 50) hx1165 (Sub.nil _))))))))))))))))))))))))))) ?_
                  refine CW.region ?_
                  refine SeqR.d1 rfl rfl rfl (yl_move rfl rfl ?_)
                  refine SeqR.d1 rfl rfl rfl (yl_inc rfl rfl rfl (by omega) ?_)
                  refine SeqR.d1 rfl rfl rfl (yl_assign rfl rfl ?_)
                  refine SeqR.done ?_
                  refine tn ?_
                  have hB1167 : B_s_l3Bytes_1 p_s p_more k5 k945 (x946) = .cont (decide (((p_s.getD k5 0).toNat : Int) = ((p_more.getD k945 0).toNat : Int))) := by simp only [B_s_l3Bytes_1, hb21, hb714, hb978, cond_true, cond_false, loopE_done, loopE_ret]
                  have q1168 := Ex.trans hf975 hE1140
                  exact ⟨p_more.length - (k945 + 1), by omega, k945 + 1, decide (((p_s.getD k5 0).toNat : Int) = ((p_more.getD k945 0).toNat : Int)), rfl, hlt977, (by omega), rfl, rfl, rfl, rfl, rfl, rfl, rfl, rfl, rfl, rfl, rfl, rfl, rfl, rfl, rfl, rfl, rfl, rfl, rfl, q1168, (loopM.cont hlt977 hB1167).symm.trans hI954⟩
            · skip
              refine CW.seq ?_
              refine CW.seq ?_
              refine CW.region ?_
              refine SeqR.d1 rfl rfl rfl (yl_move rfl rfl ?_)
              refine SeqR.d1 rfl rfl rfl (yl_move rfl rfl ?_)
              refine SeqR.d1 rfl rfl rfl (yl_slen Try.un9 (a := p_more) rfl rfl ?_)
              refine SeqR.d1 rfl rfl rfl (yl_lss rfl rfl rfl ?_)
              refine SeqR.done ?_
              refine tn ?_
              refine CW.cond_f rfl (lt_f hlt977) ?_
              refine CW.exit ?_
              refine tx ?_
              refine tx ?_
              have hL1169 : loopM (B_s_l3Bytes_1 p_s p_more k5) (p_more.length - 0) 0 (false) = .done (x946) := hI954.symm.trans (loopM.stop hlt977)
              refine bx ?_
              refine tn ?_
              refine CW.seq ?_
              refine CW.region ?_
              refine SeqR.d1 rfl rfl rfl (yl_move rfl rfl ?_)
              refine SeqR.d1 rfl rfl rfl (yl_not rfl rfl ?_)
              refine SeqR.done ?_
              refine tn ?_
              refine bcase (x946) (fun hb1170 => ?_) (fun hb1170 => ?_)
              · skip
                refine CW.cond_f rfl (not_t hb1170) ?_
                refine CW.skip ?_
                refine bn ?_
                refine tn ?_
                refine CW.region ?_
                refine SeqR.d1 rfl rfl rfl (yl_move rfl rfl ?_)
                refine SeqR.d1 rfl rfl rfl (yl_inc rfl rfl rfl (by omega) ?_)
                refine SeqR.d1 rfl rfl rfl (yl_assign rfl rfl ?_)
                refine SeqR.done ?_
                refine tn ?_
                have hB1171 : B_s_l3Bytes_0 p_s p_more k5 () = .cont () := by simp only [B_s_l3Bytes_0, hb21, hb714, hb1170, hL1169, cond_true, cond_false, loopE_done, loopE_ret]
                exact ⟨p_s.length - (k5 + 1), by omega, k5 + 1, rfl, hlt20, (by omega), rfl, rfl, rfl, hf975, (loopM.cont hlt20 hB1171).symm.trans hI13⟩
              · skip
                refine CW.cond_t rfl (not_f hb1170) ?_
                refine CW.seq ?_
                refine CW.region ?_
                refine SeqR.d1 rfl rfl rfl (yl_assign rfl rfl ?_)
                refine SeqR.done ?_
                refine tn ?_
                refine CW.ret ?_
                refine br ?_
                refine tr ?_
                refine tr ?_
                have hB1173 : B_s_l3Bytes_0 p_s p_more k5 () = .ret false := by simp only [B_s_l3Bytes_0, hb21, hb714, hb1170, hL1169, cond_true, cond_false, loopE_done, loopE_ret]
                have hL1172 : loopM (B_s_l3Bytes_0 p_s p_more) (p_s.length - 0) 0 () = .ret false := hI13.symm.trans (loopM.ret hlt20 hB1173)
                refine br ?_
                refine tr ?_
                refine rr rfl (.cons rfl .nil) ?_
                have hM1174 : (s_l3Bytes p_s p_more) = (false) := by simp only [s_l3Bytes, hb21, hb714, hb1170, hL1169, hL1172, cond_true, cond_false, loopE_done, loopE_ret]
                rw [hM1174]
                exact ⟨rfl, hf975⟩
    · skip
      refine CW.seq ?_
      refine CW.seq ?_
      refine CW.region ?_
      refine SeqR.d1 rfl rfl rfl (yl_move rfl rfl ?_)
      refine SeqR.d1 rfl rfl rfl (yl_move rfl rfl ?_)
      refine SeqR.d1 rfl rfl rfl (yl_slen Try.un9 (a := p_s) rfl rfl ?_)
      refine SeqR.d1 rfl rfl rfl (yl_lss rfl rfl rfl ?_)
      refine SeqR.done ?_
      refine tn ?_
      refine CW.cond_f rfl (lt_f hlt20) ?_
      refine CW.exit ?_
      refine tx ?_
      refine tx ?_
      have hL1175 : loopM (B_s_l3Bytes_0 p_s p_more) (p_s.length - 0) 0 () = .done () := hI13.symm.trans (loopM.stop hlt20)
      refine bx ?_
      refine tn ?_
      refine CW.seq ?_
      refine CW.region ?_
      refine SeqR.d1 rfl rfl rfl (yl_assign rfl rfl ?_)
      refine SeqR.done ?_
      refine tn ?_
      refine CW.ret ?_
      refine rr rfl (.cons rfl .nil) ?_
      have hM1176 : (s_l3Bytes p_s p_more) = (true) := by simp only [s_l3Bytes, hL1175, cond_true, cond_false, loopE_done, loopE_ret]
      rw [hM1176]
      exact ⟨rfl, hf18⟩
set_option maxRecDepth 100000 in
set_option maxHeartbeats 2000000 in
theorem c_s_l25Field {w : World} (p_s : Str) (o1 : okS p_s) : Cal Try.prog 147 #[.string (bs (p_s))] w fun v w' => v = .bool ((s_l25Field p_s)) ∧ Ex w w' := by
  have hol2 : p_s.length ≤ 1073741824 := o1
  refine Cal.of (vs := [.string (bs (p_s))]) Try.func147 rfl Try.ntmps147 rfl ?_
  refine CW.seq ?_
  refine CW.region ?_
  refine SeqR.d1 rfl rfl rfl (yl_assign rfl rfl ?_)
  refine SeqR.done ?_
  refine tn ?_
  refine CW.seq ?_
  refine CW.region ?_
  refine SeqR.d1 rfl rfl rfl (yl_move rfl rfl ?_)
  refine SeqR.d1 rfl rfl rfl (yl_slen Try.un9 (a := p_s) rfl rfl ?_)
  refine SeqR.d1 rfl rfl rfl (yl_call Try.en124 rfl (opvs_cons rfl (opvs_cons rfl (opvs_cons rfl opvs_nil))) (Cal.mono (c_s_l1In (p_s.length : Int) 1 3) ?_))
  rintro v4 w3 ⟨rfl, hE5⟩
  have hE5z := Ex.size hE5
  refine SeqR.d1 rfl rfl rfl (yl_move rfl rfl ?_)
  refine bcase (s_l1In (p_s.length : Int) 1 3) (fun hb6 => ?_) (fun hb6 => ?_)
  · have hb6p := f_l1In hb6
    refine SeqR.y rfl rfl rfl rfl rfl hb6 (yl_move rfl rfl ?_)
    refine SeqR.y rfl rfl rfl rfl rfl hb6 (yl_call Try.en189 rfl (opvs_cons rfl (opvs_cons rfl opvs_nil)) (Cal.mono (c_s_l3Bytes p_s ([] : Str) o1 (okS.lit rfl)) ?_))
    rintro v8 w7 ⟨rfl, hE9⟩
    have hE9z := Ex.size hE9
    refine SeqR.d1 rfl rfl rfl (yl_pick_t rfl rfl hb6 rfl ?_)
    refine SeqR.d1 rfl rfl rfl (yl_assign rfl rfl ?_)
    refine SeqR.done ?_
    refine tn ?_
    refine CW.ret ?_
    refine rr rfl (.cons rfl .nil) ?_
    have hM10 : (s_l25Field p_s) = ((s_l3Bytes p_s ([] : Str))) := by simp only [s_l25Field, hb6, cond_true, cond_false, loopE_done, loopE_ret]
    rw [hM10]
    have q11 := Ex.trans (Ex.refl w) hE5
    have q12 := Ex.trans q11 hE9
    exact ⟨rfl, q12⟩
  · skip
    refine SeqR.z rfl rfl rfl rfl rfl hb6 ?_
    refine SeqR.z rfl rfl rfl rfl rfl hb6 ?_
    refine SeqR.d1 rfl rfl rfl (yl_pick_f rfl rfl hb6 rfl ?_)
    refine SeqR.d1 rfl rfl rfl (yl_assign rfl rfl ?_)
    refine SeqR.done ?_
    refine tn ?_
    refine CW.ret ?_
    refine rr rfl (.cons rfl .nil) ?_
    have hM13 : (s_l25Field p_s) = (false) := by simp only [s_l25Field, hb6, cond_true, cond_false, loopE_done, loopE_ret]
    rw [hM13]
    have q14 := Ex.trans (Ex.refl w) hE5
    exact ⟨rfl, q14⟩
set_option maxRecDepth 100000 in
set_option maxHeartbeats 2000000 in
theorem c_s_l25Good {A1 : Option Addr} {c1 : Nat} {A2 : Option Addr} {c2 : Nat} {A4 : Option Addr} {c4 : Nat} {w : World} (p_t : DTable) (p_r : DRow) (h1 : RdS w (Iv 0 w.heap.size) (RF e_Str) 1 A1 p_t.Cols.length c1 p_t.Cols) (h2 : RdS w (Iv 0 w.heap.size) (RF e_Idx) 3 A2 p_t.Idxs.length c2 p_t.Idxs) (h4 : RdS w (Iv 0 w.heap.size) (RF e_Str) 1 A4 p_r.Vals.length c4 p_r.Vals) (o3 : ok_Table p_t) (o5 : ok_Row p_r) : Cal Try.prog 87 #[.agg #[.string (bs (p_t.Name)), .slice A1 p_t.Cols.length c1, .slice A2 p_t.Idxs.length c2], .agg #[.slice A4 p_r.Vals.length c4]] w fun v w' => v = .bool ((s_l25Good p_t p_r)) ∧ Ex w w' := by
  have hol6 : p_t.Name.length ≤ 1073741824 := o3.1
  have hol7 := o3.2.1.1
  have hol8 := o3.2.2.1
  have hol9 := o5.1
  refine Cal.of (vs := [.agg #[.string (bs (p_t.Name)), .slice A1 p_t.Cols.length c1, .slice A2 p_t.Idxs.length c2], .agg #[.slice A4 p_r.Vals.length c4]]) Try.func87 rfl Try.ntmps87 rfl ?_
  refine CW.seq ?_
  refine CW.region ?_
  refine SeqR.d1 rfl rfl rfl (yl_box (cs := [.string (bs (p_t.Name)), .slice A1 p_t.Cols.length c1, .slice A2 p_t.Idxs.length c2]) rfl rfl rfl ?_)
  intro b10 w11 hs12 hz13 hB14 hE15
  refine SeqR.d1 rfl rfl rfl (yl_box (cs := [.slice A4 p_r.Vals.length c4]) rfl rfl rfl ?_)
  intro b16 w17 hs18 hz19 hB20 hE21
  refine SeqR.d1 rfl rfl rfl (yl_assign rfl rfl ?_)
  refine SeqR.done ?_
  refine tn ?_
  refine CW.seq ?_
  refine CW.seq ?_
  refine CW.region ?_
  refine SeqR.d1 rfl rfl rfl (yl_fieldAddr Try.fd37_0 rfl rfl ?_)
  refine SeqR.d1 rfl rfl rfl (yl_load1 Try.ty22 rfl rfl ((hB20.cell 0).trans rfl) ?_)
  refine SeqR.d1 rfl rfl rfl (yl_len Try.un22 rfl rfl ?_)
  refine SeqR.d1 rfl rfl rfl (yl_move rfl rfl ?_)
  refine SeqR.done ?_
  refine tn ?_
  refine CW.block ?_
  have q26 := Box.ex hB14 hE21
  have q27 := RdS.ex good_Str h1 hE15
  have q28 := RdS.ex good_Str q27 hE21
  have q29 := RdS.ex good_Idx h2 hE15
  have q30 := RdS.ex good_Idx q29 hE21
  have q31 := RdS.ex good_Str h4 hE15
  have q32 := RdS.ex good_Str q31 hE21
  have q33 := Ex.trans (Ex.refl w) hE15
  have q34 := Ex.trans q33 hE21
  refine CW.loop (fun m23 L24 w25 => ∃ (k22 : Nat), m23 = p_r.Vals.length - k22 ∧ k22 ≤ p_r.Vals.length ∧ w17.heap.size ≤ w25.heap.size ∧ lkp L24 2 = some (.pointer (some ⟨b10, 0, none⟩)) ∧ lkp L24 3 = some (.pointer (some ⟨b16, 0, none⟩)) ∧ lkp L24 8 = some (.slice A4 p_r.Vals.length c4) ∧ lkp L24 9 = some (.int .i64 ((p_r.Vals.length : Int))) ∧ lkp L24 10 = some (.int .i64 ((k22 : Int))) ∧ Box w25 b10 35 [.string (bs (p_t.Name)), .slice A1 p_t.Cols.length c1, .slice A2 p_t.Idxs.length c2] ∧ RdS w25 (Iv 0 w.heap.size) (RF e_Str) 1 A1 p_t.Cols.length c1 p_t.Cols ∧ RdS w25 (Iv 0 w.heap.size) (RF e_Idx) 3 A2 p_t.Idxs.length c2 p_t.Idxs ∧ Box w25 b16 37 [.slice A4 p_r.Vals.length c4] ∧ RdS w25 (Iv 0 w.heap.size) (RF e_Str) 1 A4 p_r.Vals.length c4 p_r.Vals ∧ Ex w w25 ∧ loopM (B_s_l25Good_0 p_t p_r) (p_r.Vals.length - k22) k22 () = loopM (B_s_l25Good_0 p_t p_r) (p_r.Vals.length - 0) 0 ()) (p_r.Vals.length - 0) ?_ ?_
  · exact ⟨0, rfl, (by omega), Nat.le_refl _, rfl, rfl, rfl, rfl, rfl, q26, q28, q30, hB20, q32, q34, rfl⟩
  · rintro m35 L36 w37 ⟨k22, rfl, hk38, hsz40, hl41, hl42, hl43, hl44, hl45, hf46, hf47, hf48, hf49, hf50, hf51, hI39⟩
    refine CW.sub (Sub.cons hl41 (Sub.cons hl42 (Sub.cons hl43 (Sub.cons hl44 (Sub.cons hl45 (Sub.nil _)))))) ?_
    have hf46z := Box.lt hf46
    have hf49z := Box.lt hf49
    have hf51z := Ex.size hf51
    have hbg52 := RdS.big hf50
    rcases Nat.lt_or_ge k22 p_r.Vals.length with hlt53 | hlt53
    · skip
      refine CW.seq ?_
      refine CW.region ?_
      refine SeqR.d1 rfl rfl rfl (yl_lss rfl rfl rfl ?_)
      refine SeqR.done ?_
      refine tn ?_
      refine CW.seq ?_
      refine CW.cond_t rfl (lt_t hlt53) ?_
      refine CW.skip ?_
      refine tn ?_
      refine CW.seq ?_
      refine CW.block ?_
      refine CW.seq ?_
      refine CW.region ?_
      obtain ⟨eb54, eo54, ec54, eA54, eS54, ebl54, el54, eR54, eC54⟩ := RdS.atD hf50 d_Str (i := k22) (by first | omega | assumption)
      obtain rfl := eR54
      have eC54 : Cells w37 eb54 (eo54 + k22 * 1) [.string (bs ((p_r.Vals.getD k22 d_Str)))] := eC54
      refine SeqR.d1 rfl rfl rfl (yl_indexAddrN Try.un22 Try.ty9 rfl rfl rfl eA54 (by first | omega | assumption | (simp only [IntKind.wrap_i64] at *; omega)) ?_)
      refine SeqR.d1 rfl rfl rfl (yl_load1 Try.ty9 rfl rfl (eC54 0 _ rfl) ?_)
      refine SeqR.d1 rfl rfl rfl (yl_assign rfl rfl ?_)
      refine SeqR.done ?_
      refine tn ?_
      refine CW.seq ?_
      refine CW.region ?_
      refine SeqR.d1 rfl rfl rfl (yl_move rfl rfl ?_)
      refine SeqR.d1 rfl rfl rfl (yl_call Try.en147 rfl (opvs_cons rfl opvs_nil) (Cal.mono (c_s_l25Field (p_r.Vals.getD k22 d_Str) (okL.getD o5 ok_d_Str _)) ?_))
      rintro v56 w55 ⟨rfl, hE57⟩
      have hE57z := Ex.size hE57
      refine SeqR.d1 rfl rfl rfl (yl_not rfl rfl ?_)
      refine SeqR.done ?_
      refine tn ?_
      refine bcase (s_l25Field (p_r.Vals.getD k22 d_Str)) (fun hb58 => ?_) (fun hb58 => ?_)
      · skip
        refine CW.cond_f rfl (not_t hb58) ?_
        refine CW.skip ?_
        refine bn ?_
        refine tn ?_
        refine CW.region ?_
        refine SeqR.d1 rfl rfl rfl (yl_inc rfl rfl rfl (by omega) ?_)
        refine SeqR.d1 rfl rfl rfl (yl_move rfl rfl ?_)
        refine SeqR.done ?_
        refine tn ?_
        have hB59 : B_s_l25Good_0 p_t p_r k22 () = .cont () := by simp only [B_s_l25Good_0, hb58, cond_true, cond_false, loopE_done, loopE_ret]
        have q60 := Box.ex hf46 hE57
        have q61 := RdS.ex good_Str hf47 hE57
        have q62 := RdS.ex good_Idx hf48 hE57
        have q63 := Box.ex hf49 hE57
        have q64 := RdS.ex good_Str hf50 hE57
        have q65 := Ex.trans hf51 hE57
        exact ⟨p_r.Vals.length - (k22 + 1), by omega, k22 + 1, rfl, hlt53, (by omega), rfl, rfl, rfl, rfl, rfl, q60, q61, q62, q63, q64, q65, (loopM.cont hlt53 hB59).symm.trans hI39⟩
      · skip
        refine CW.cond_t rfl (not_f hb58) ?_
        refine CW.seq ?_
        refine CW.region ?_
        refine SeqR.d1 rfl rfl rfl (yl_assign rfl rfl ?_)
        refine SeqR.done ?_
        refine tn ?_
        refine CW.ret ?_
        refine br ?_
        refine tr ?_
        refine tr ?_
        have hB67 : B_s_l25Good_0 p_t p_r k22 () = .ret false := by simp only [B_s_l25Good_0, hb58, cond_true, cond_false, loopE_done, loopE_ret]
        have hL66 : loopM (B_s_l25Good_0 p_t p_r) (p_r.Vals.length - 0) 0 () = .ret false := hI39.symm.trans (loopM.ret hlt53 hB67)
        refine br ?_
        refine tr ?_
        refine rr rfl (.cons rfl .nil) ?_
        have hM68 : (s_l25Good p_t p_r) = (false) := by simp only [s_l25Good, hb58, hL66, cond_true, cond_false, loopE_done, loopE_ret]
        rw [hM68]
        have q69 := Ex.trans hf51 hE57
        exact ⟨rfl, q69⟩
    · skip
      refine CW.seq ?_
      refine CW.region ?_
      refine SeqR.d1 rfl rfl rfl (yl_lss rfl rfl rfl ?_)
      refine SeqR.done ?_
      refine tn ?_
      refine CW.seq ?_
      refine CW.cond_f rfl (lt_f hlt53) ?_
      refine CW.exit ?_
      refine tx ?_
      refine tx ?_
      have hL70 : loopM (B_s_l25Good_0 p_t p_r) (p_r.Vals.length - 0) 0 () = .done () := hI39.symm.trans (loopM.stop hlt53)
      refine bx ?_
      refine tn ?_
      refine CW.seq ?_
      refine CW.region ?_
      refine SeqR.d1 rfl rfl rfl (yl_fieldAddr Try.fd37_0 rfl rfl ?_)
      refine SeqR.d1 rfl rfl rfl (yl_load1 Try.ty22 rfl rfl ((hf49.cell 0).trans rfl) ?_)
      refine SeqR.d1 rfl rfl rfl (yl_len Try.un22 rfl rfl ?_)
      refine SeqR.d1 rfl rfl rfl (yl_fieldAddr Try.fd35_1 rfl rfl ?_)
      refine SeqR.d1 rfl rfl rfl (yl_load1 Try.ty22 rfl rfl ((hf46.cell 1).trans rfl) ?_)
      refine SeqR.d1 rfl rfl rfl (yl_len Try.un22 rfl rfl ?_)
      refine SeqR.d1 rfl rfl rfl (yl_eql rfl rfl rfl ?_)
      refine SeqR.d1 rfl rfl rfl (yl_assign rfl rfl ?_)
      refine SeqR.done ?_
      refine tn ?_
      refine CW.ret ?_
      refine rr rfl (.cons rfl .nil) ?_
      have hM71 : (s_l25Good p_t p_r) = (decide ((p_r.Vals.length : Int) = (p_t.Cols.length : Int))) := by simp only [s_l25Good, hL70, cond_true, cond_false, loopE_done, loopE_ret]
      rw [hM71]
      exact ⟨rfl, hf51⟩
set_option maxRecDepth 100000 in
set_option maxHeartbeats 2000000 in
theorem c_s_l25Entry {A1 : Option Addr} {c1 : Nat} {A2 : Option Addr} {c2 : Nat} {A5 : Option Addr} {c5 : Nat} {w : World} (p_t : DTable) (p_x : DIdx) (p_r : DRow) (h1 : RdS w (Iv 0 w.heap.size) (RF e_Str) 1 A1 p_t.Cols.length c1 p_t.Cols) (h2 : RdS w (Iv 0 w.heap.size) (RF e_Idx) 3 A2 p_t.Idxs.length c2 p_t.Idxs) (h5 : RdS w (Iv 0 w.heap.size) (RF e_Str) 1 A5 p_r.Vals.length c5 p_r.Vals) (o3 : ok_Table p_t) (o4 : ok_Idx p_x) (o6 : ok_Row p_r) (pre0 : (0 ≤ p_x.Col ∧ p_x.Col < (p_r.Vals.length : Int))) (pre1 : (p_t.Name.length ≤ 1 ∧ p_x.Name.length ≤ 1)) (pre2 : rowShort p_r) : Cal Try.prog 88 #[.agg #[.string (bs (p_t.Name)), .slice A1 p_t.Cols.length c1, .slice A2 p_t.Idxs.length c2], .agg #[.string (bs (p_x.Name)), .int .i64 (p_x.Col), .int .i64 (p_x.Stage)], .agg #[.slice A5 p_r.Vals.length c5]] w fun v w' => v = .string (bs ((s_l25Entry p_t p_x p_r))) ∧ okS (s_l25Entry p_t p_x p_r) ∧ Ex w w' := by
  have hol7 : p_t.Name.length ≤ 1073741824 := o3.1
  have hol8 := o3.2.1.1
  have hol9 := o3.2.2.1
  have hol10 : p_x.Name.length ≤ 1073741824 := o4
  have hol11 := o6.1
  refine Cal.of (vs := [.agg #[.string (bs (p_t.Name)), .slice A1 p_t.Cols.length c1, .slice A2 p_t.Idxs.length c2], .agg #[.string (bs (p_x.Name)), .int .i64 (p_x.Col), .int .i64 (p_x.Stage)], .agg #[.slice A5 p_r.Vals.length c5]]) Try.func88 rfl Try.ntmps88 rfl ?_
  refine CW.seq ?_
  refine CW.region ?_
  refine SeqR.d1 rfl rfl rfl (yl_box (cs := [.string (bs (p_t.Name)), .slice A1 p_t.Cols.length c1, .slice A2 p_t.Idxs.length c2]) rfl rfl rfl ?_)
  intro b12 w13 hs14 hz15 hB16 hE17
  refine SeqR.d1 rfl rfl rfl (yl_box (cs := [.string (bs (p_x.Name)), .int .i64 (p_x.Col), .int .i64 (p_x.Stage)]) rfl rfl rfl ?_)
  intro b18 w19 hs20 hz21 hB22 hE23
  refine SeqR.d1 rfl rfl rfl (yl_box (cs := [.slice A5 p_r.Vals.length c5]) rfl rfl rfl ?_)
  intro b24 w25 hs26 hz27 hB28 hE29
  refine SeqR.d1 rfl rfl rfl (yl_assign rfl rfl ?_)
  refine SeqR.done ?_
  refine tn ?_
  refine CW.seq ?_
  have q30 := Box.ex hB16 hE23
  have q31 := Box.ex q30 hE29
  have hol32 : p_t.Name.length ≤ 1073741824 := o3.1
  have q33 := Box.ex hB22 hE29
  have hol34 : p_t.Name.length ≤ 1073741824 := o3.1
  have hol35 : p_x.Name.length ≤ 1073741824 := o4
  have hol36 : p_t.Name.length ≤ 1073741824 := o3.1
  have hol37 : p_x.Name.length ≤ 1073741824 := o4
  have q38 := RdS.ex good_Str h5 hE17
  have q39 := RdS.ex good_Str q38 hE23
  have q40 := RdS.ex good_Str q39 hE29
  obtain ⟨eb41, eo41, ec41, eA41, eS41, ebl41, el41, eR41, eC41⟩ := RdS.atD q40 d_Str (i := (p_x.Col).toNat) (by first | omega | assumption | (simp only [IntKind.wrap_i64] at *; omega))
  obtain rfl := eR41
  have eC41 : Cells w25 eb41 (eo41 + ((p_x.Col).toNat) * 1) [.string (bs ((p_r.Vals.getD ((p_x.Col).toNat) d_Str)))] := eC41
  have hol42 : p_t.Name.length ≤ 1073741824 := o3.1
  have hol43 : p_x.Name.length ≤ 1073741824 := o4
  have hol44 : (p_r.Vals.getD ((p_x.Col).toNat) d_Str).length ≤ 1073741824 := (okL.getD o6 ok_d_Str _)
  have hol45 : p_t.Name.length ≤ 1073741824 := o3.1
  have hol46 : p_x.Name.length ≤ 1073741824 := o4
  have hol47 : (p_r.Vals.getD ((p_x.Col).toNat) d_Str).length ≤ 1073741824 := (okL.getD o6 ok_d_Str _)
  obtain ⟨eb48, eo48, ec48, eA48, eS48, ebl48, el48, eR48, eC48⟩ := RdS.atD q40 d_Str (i := 0) (by first | omega | assumption)
  obtain rfl := eR48
  have eC48 : Cells w25 eb48 (eo48 + 0 * 1) [.string (bs ((p_r.Vals.getD 0 d_Str)))] := eC48
  have hol49 : p_t.Name.length ≤ 1073741824 := o3.1
  have hol50 : p_x.Name.length ≤ 1073741824 := o4
  have hol51 : (p_r.Vals.getD ((p_x.Col).toNat) d_Str).length ≤ 1073741824 := (okL.getD o6 ok_d_Str _)
  have hol52 : (p_r.Vals.getD 0 d_Str).length ≤ 1073741824 := (okL.getD o6 ok_d_Str _)
  refine CW.drawsI 21 (vgetI [DetI (.pointer (some ⟨b12, 0 + 0, none⟩)), DetI (.string (bs (p_t.Name))), DetI (.string (bs (p_t.Name ++ ([46] : Str)))), DetI (.pointer (some ⟨b18, 0 + 0, none⟩)), DetI (.string (bs (p_x.Name))), DetI (.string (bs ((p_t.Name ++ ([46] : Str)) ++ p_x.Name))), DetI (.string (bs (((p_t.Name ++ ([46] : Str)) ++ p_x.Name) ++ ([47] : Str)))), DetI (.pointer (some ⟨b24, 0 + 0, none⟩)), DetI (.slice A5 p_r.Vals.length c5), DetI (.pointer (some ⟨b18, 0 + 1, none⟩)), DetI (.int .i64 (p_x.Col)), DetI (.pointer (some ⟨eb41, eo41 + ((p_x.Col).toNat) * 1, none⟩)), DetI (.string (bs ((p_r.Vals.getD ((p_x.Col).toNat) d_Str)))), DetI (.string (bs ((((p_t.Name ++ ([46] : Str)) ++ p_x.Name) ++ ([47] : Str)) ++ (p_r.Vals.getD ((p_x.Col).toNat) d_Str)))), DetI (.string (bs (((((p_t.Name ++ ([46] : Str)) ++ p_x.Name) ++ ([47] : Str)) ++ (p_r.Vals.getD ((p_x.Col).toNat) d_Str)) ++ ([47] : Str)))), DetI (.pointer (some ⟨b24, 0 + 0, none⟩)), DetI (.slice A5 p_r.Vals.length c5), DetI (.pointer (some ⟨eb48, eo48 + 0 * 1, none⟩)), DetI (.string (bs ((p_r.Vals.getD 0 d_Str)))), DetI (.string (bs ((((((p_t.Name ++ ([46] : Str)) ++ p_x.Name) ++ ([47] : Str)) ++ (p_r.Vals.getD ((p_x.Col).toNat) d_Str)) ++ ([47] : Str)) ++ (p_r.Vals.getD 0 d_Str)))), DetI (.string (bs ((((((p_t.Name ++ ([46] : Str)) ++ p_x.Name) ++ ([47] : Str)) ++ (p_r.Vals.getD ((p_x.Col).toNat) d_Str)) ++ ([47] : Str)) ++ (p_r.Vals.getD 0 d_Str))))]) Try.follows rfl rfl rfl rfl rfl rfl (vgetI_stable ⟨StableI.det _, StableI.det _, StableI.det _, StableI.det _, StableI.det _, StableI.det _, StableI.det _, StableI.det _, StableI.det _, StableI.det _, StableI.det _, StableI.det _, StableI.det _, StableI.det _, StableI.det _, StableI.det _, StableI.det _, StableI.det _, StableI.det _, StableI.det _, StableI.det _, trivial⟩) ⟨?_, ?_, ?_, ?_, ?_, ?_, ?_, ?_, ?_, ?_, ?_, ?_, ?_, ?_, ?_, ?_, ?_, ?_, ?_, ?_, ?_, trivial⟩ ?_
  · intro L53 w54 hi55
    have hE56 := hi55.ex
    have hE56z := Ex.size hE56
    have hx57 := hi55.old 3 _ rfl rfl
    exact OpR.op' rfl (Yl.sameI (yl_fieldAddr Try.fd35_0 rfl hx57 ⟨fun _ _ => rfl, rfl⟩))
  · intro L58 w59 hi60
    have hE61 := hi60.ex
    have hE61z := Ex.size hE61
    obtain ⟨_, _, _, hx62, -, -, -, rfl⟩ := hi60.dep 0 7 rfl rfl
    have q63 := Box.ex q31 hE61
    exact OpR.op' rfl (Yl.sameI (yl_load1 Try.ty9 rfl hx62 ((q63.cell 0).trans rfl) ⟨fun _ _ => rfl, rfl⟩))
  · intro L64 w65 hi66
    have hE67 := hi66.ex
    have hE67z := Ex.size hE67
    obtain ⟨_, _, _, hx68, -, -, -, rfl⟩ := hi66.dep 1 8 rfl rfl
    have hol69 : p_t.Name.length ≤ 1073741824 := o3.1
    exact OpR.op' rfl (Yl.sameI (yl_sadd (a := p_t.Name) (b := ([46] : Str)) rfl hx68 rfl (by first | omega | (simp only [List.length_append, List.length_cons, List.length_nil, List.length_take, List.length_drop]; omega)) ⟨fun _ _ => rfl, rfl⟩))
  · intro L70 w71 hi72
    have hE73 := hi72.ex
    have hE73z := Ex.size hE73
    have hx74 := hi72.old 4 _ rfl rfl
    exact OpR.op' rfl (Yl.sameI (yl_fieldAddr Try.fd132_0 rfl hx74 ⟨fun _ _ => rfl, rfl⟩))
  · intro L75 w76 hi77
    have hE78 := hi77.ex
    have hE78z := Ex.size hE78
    obtain ⟨_, _, _, hx79, -, -, -, rfl⟩ := hi77.dep 3 10 rfl rfl
    have q80 := Box.ex q33 hE78
    exact OpR.op' rfl (Yl.sameI (yl_load1 Try.ty9 rfl hx79 ((q80.cell 0).trans rfl) ⟨fun _ _ => rfl, rfl⟩))
  · intro L81 w82 hi83
    have hE84 := hi83.ex
    have hE84z := Ex.size hE84
    obtain ⟨_, _, _, hx85, -, -, -, rfl⟩ := hi83.dep 2 9 rfl rfl
    obtain ⟨_, _, _, hx86, -, -, -, rfl⟩ := hi83.dep 4 11 rfl rfl
    have hol87 : p_t.Name.length ≤ 1073741824 := o3.1
    have hol88 : p_x.Name.length ≤ 1073741824 := o4
    exact OpR.op' rfl (Yl.sameI (yl_sadd (a := (p_t.Name ++ ([46] : Str))) (b := p_x.Name) rfl hx85 hx86 (by first | omega | (simp only [List.length_append, List.length_cons, List.length_nil, List.length_take, List.length_drop]; omega)) ⟨fun _ _ => rfl, rfl⟩))
  · intro L89 w90 hi91
    have hE92 := hi91.ex
    have hE92z := Ex.size hE92
    obtain ⟨_, _, _, hx93, -, -, -, rfl⟩ := hi91.dep 5 12 rfl rfl
    have hol94 : p_t.Name.length ≤ 1073741824 := o3.1
    have hol95 : p_x.Name.length ≤ 1073741824 := o4
    exact OpR.op' rfl (Yl.sameI (yl_sadd (a := ((p_t.Name ++ ([46] : Str)) ++ p_x.Name)) (b := ([47] : Str)) rfl hx93 rfl (by first | omega | (simp only [List.length_append, List.length_cons, List.length_nil, List.length_take, List.length_drop]; omega)) ⟨fun _ _ => rfl, rfl⟩))
  · intro L96 w97 hi98
    have hE99 := hi98.ex
    have hE99z := Ex.size hE99
    have hx100 := hi98.old 5 _ rfl rfl
    exact OpR.op' rfl (Yl.sameI (yl_fieldAddr Try.fd37_0 rfl hx100 ⟨fun _ _ => rfl, rfl⟩))
  · intro L101 w102 hi103
    have hE104 := hi103.ex
    have hE104z := Ex.size hE104
    obtain ⟨_, _, _, hx105, -, -, -, rfl⟩ := hi103.dep 7 14 rfl rfl
    have q106 := Box.ex hB28 hE104
    exact OpR.op' rfl (Yl.sameI (yl_load1 Try.ty22 rfl hx105 ((q106.cell 0).trans rfl) ⟨fun _ _ => rfl, rfl⟩))
  · intro L107 w108 hi109
    have hE110 := hi109.ex
    have hE110z := Ex.size hE110
    have hx111 := hi109.old 4 _ rfl rfl
    exact OpR.op' rfl (Yl.sameI (yl_fieldAddr Try.fd132_1 rfl hx111 ⟨fun _ _ => rfl, rfl⟩))
  · intro L112 w113 hi114
    have hE115 := hi114.ex
    have hE115z := Ex.size hE115
    obtain ⟨_, _, _, hx116, -, -, -, rfl⟩ := hi114.dep 9 16 rfl rfl
    have q117 := Box.ex q33 hE115
    exact OpR.op' rfl (Yl.sameI (yl_load1 Try.ty3 rfl hx116 ((q117.cell 1).trans rfl) ⟨fun _ _ => rfl, rfl⟩))
  · intro L118 w119 hi120
    have hE121 := hi120.ex
    have hE121z := Ex.size hE121
    obtain ⟨_, _, _, hx122, -, -, -, rfl⟩ := hi120.dep 8 15 rfl rfl
    obtain ⟨_, _, _, hx123, -, -, -, rfl⟩ := hi120.dep 10 17 rfl rfl
    exact OpR.op' rfl (Yl.sameI (yl_indexAddr Try.un22 Try.ty9 rfl hx122 hx123 eA41 (by first | omega | assumption | (simp only [IntKind.wrap_i64] at *; omega)) (by first | omega | assumption | (simp only [IntKind.wrap_i64] at *; omega)) ⟨fun _ _ => rfl, rfl⟩))
  · intro L124 w125 hi126
    have hE127 := hi126.ex
    have hE127z := Ex.size hE127
    obtain ⟨_, _, _, hx128, -, -, -, rfl⟩ := hi126.dep 11 18 rfl rfl
    have q129 := Cells.ex eC41 hE127
    exact OpR.op' rfl (Yl.sameI (yl_load1 Try.ty9 rfl hx128 (q129 0 _ rfl) ⟨fun _ _ => rfl, rfl⟩))
  · intro L130 w131 hi132
    have hE133 := hi132.ex
    have hE133z := Ex.size hE133
    obtain ⟨_, _, _, hx134, -, -, -, rfl⟩ := hi132.dep 6 13 rfl rfl
    obtain ⟨_, _, _, hx135, -, -, -, rfl⟩ := hi132.dep 12 19 rfl rfl
    have hol136 : p_t.Name.length ≤ 1073741824 := o3.1
    have hol137 : p_x.Name.length ≤ 1073741824 := o4
    have hol138 : (p_r.Vals.getD ((p_x.Col).toNat) d_Str).length ≤ 1073741824 := (okL.getD o6 ok_d_Str _)
    exact OpR.op' rfl (Yl.sameI (yl_sadd (a := (((p_t.Name ++ ([46] : Str)) ++ p_x.Name) ++ ([47] : Str))) (b := (p_r.Vals.getD ((p_x.Col).toNat) d_Str)) rfl hx134 hx135 (by first | omega | (simp only [List.length_append, List.length_cons, List.length_nil, List.length_take, List.length_drop]; omega)) ⟨fun _ _ => rfl, rfl⟩))
  · intro L139 w140 hi141
    have hE142 := hi141.ex
    have hE142z := Ex.size hE142
    obtain ⟨_, _, _, hx143, -, -, -, rfl⟩ := hi141.dep 13 20 rfl rfl
    have hol144 : p_t.Name.length ≤ 1073741824 := o3.1
    have hol145 : p_x.Name.length ≤ 1073741824 := o4
    have hol146 : (p_r.Vals.getD ((p_x.Col).toNat) d_Str).length ≤ 1073741824 := (okL.getD o6 ok_d_Str _)
    exact OpR.op' rfl (Yl.sameI (yl_sadd (a := ((((p_t.Name ++ ([46] : Str)) ++ p_x.Name) ++ ([47] : Str)) ++ (p_r.Vals.getD ((p_x.Col).toNat) d_Str))) (b := ([47] : Str)) rfl hx143 rfl (by first | omega | (simp only [List.length_append, List.length_cons, List.length_nil, List.length_take, List.length_drop]; omega)) ⟨fun _ _ => rfl, rfl⟩))
  · intro L147 w148 hi149
    have hE150 := hi149.ex
    have hE150z := Ex.size hE150
    have hx151 := hi149.old 5 _ rfl rfl
    exact OpR.op' rfl (Yl.sameI (yl_fieldAddr Try.fd37_0 rfl hx151 ⟨fun _ _ => rfl, rfl⟩))
  · intro L152 w153 hi154
    have hE155 := hi154.ex
    have hE155z := Ex.size hE155
    obtain ⟨_, _, _, hx156, -, -, -, rfl⟩ := hi154.dep 15 22 rfl rfl
    have q157 := Box.ex hB28 hE155
    exact OpR.op' rfl (Yl.sameI (yl_load1 Try.ty22 rfl hx156 ((q157.cell 0).trans rfl) ⟨fun _ _ => rfl, rfl⟩))
  · intro L158 w159 hi160
    have hE161 := hi160.ex
    have hE161z := Ex.size hE161
    obtain ⟨_, _, _, hx162, -, -, -, rfl⟩ := hi160.dep 16 23 rfl rfl
    exact OpR.op' rfl (Yl.sameI (yl_indexAddrN Try.un22 Try.ty9 rfl hx162 rfl eA48 (by first | omega | assumption | (simp only [IntKind.wrap_i64] at *; omega)) ⟨fun _ _ => rfl, rfl⟩))
  · intro L163 w164 hi165
    have hE166 := hi165.ex
    have hE166z := Ex.size hE166
    obtain ⟨_, _, _, hx167, -, -, -, rfl⟩ := hi165.dep 17 24 rfl rfl
    have q168 := Cells.ex eC48 hE166
    exact OpR.op' rfl (Yl.sameI (yl_load1 Try.ty9 rfl hx167 (q168 0 _ rfl) ⟨fun _ _ => rfl, rfl⟩))
  · intro L169 w170 hi171
    have hE172 := hi171.ex
    have hE172z := Ex.size hE172
    obtain ⟨_, _, _, hx173, -, -, -, rfl⟩ := hi171.dep 14 21 rfl rfl
    obtain ⟨_, _, _, hx174, -, -, -, rfl⟩ := hi171.dep 18 25 rfl rfl
    have hol175 : p_t.Name.length ≤ 1073741824 := o3.1
    have hol176 : p_x.Name.length ≤ 1073741824 := o4
    have hol177 : (p_r.Vals.getD ((p_x.Col).toNat) d_Str).length ≤ 1073741824 := (okL.getD o6 ok_d_Str _)
    have hol178 : (p_r.Vals.getD 0 d_Str).length ≤ 1073741824 := (okL.getD o6 ok_d_Str _)
    exact OpR.op' rfl (Yl.sameI (yl_sadd (a := (((((p_t.Name ++ ([46] : Str)) ++ p_x.Name) ++ ([47] : Str)) ++ (p_r.Vals.getD ((p_x.Col).toNat) d_Str)) ++ ([47] : Str))) (b := (p_r.Vals.getD 0 d_Str)) rfl hx173 hx174 (by first | omega | (simp only [List.length_append, List.length_cons, List.length_nil, List.length_take, List.length_drop]; omega)) ⟨fun _ _ => rfl, rfl⟩))
  · intro L179 w180 hi181
    have hE182 := hi181.ex
    have hE182z := Ex.size hE182
    obtain ⟨_, _, _, hx183, -, -, -, rfl⟩ := hi181.dep 19 26 rfl rfl
    exact OpR.op' rfl (Yl.sameI (yl_assign rfl hx183 ⟨fun _ _ => rfl, rfl⟩))
  · intro fl187 fh188 L184 w185 hp186
    have hE189 := hp186.ex
    have hE189z := Ex.size hE189
    obtain ⟨_, hx190, rfl⟩ := hp186.new 20 6 rfl rfl
    refine SeqR.done ?_
    refine tn ?_
    refine CW.sub (Sub.cons (d := 6) hx190 (Sub.nil _)) ?_
    refine CW.ret ?_
    refine rr rfl (.cons rfl .nil) ?_
    have hM191 : (s_l25Entry p_t p_x p_r) = ((((((p_t.Name ++ ([46] : Str)) ++ p_x.Name) ++ ([47] : Str)) ++ (p_r.Vals.getD ((p_x.Col).toNat) d_Str)) ++ ([47] : Str)) ++ (p_r.Vals.getD 0 d_Str)) := by simp only [s_l25Entry, cond_true, cond_false, loopE_done, loopE_ret]
    rw [hM191]
    have q192 := Ex.trans (Ex.refl w) hE17
    have q193 := Ex.trans q192 hE23
    have q194 := Ex.trans q193 hE29
    have q195 := Ex.trans q194 hE189
    exact ⟨rfl, (okS_l25Entry pre1 pre2), q195⟩
set_option maxRecDepth 100000 in
set_option maxHeartbeats 2000000 in
theorem c_s_IdxKey {A1 : Option Addr} {c1 : Nat} {A2 : Option Addr} {c2 : Nat} {A5 : Option Addr} {c5 : Nat} {w : World} (p_t : DTable) (p_name : Str) (p_r : DRow) (h1 : RdS w (Iv 0 w.heap.size) (RF e_Str) 1 A1 p_t.Cols.length c1 p_t.Cols) (h2 : RdS w (Iv 0 w.heap.size) (RF e_Idx) 3 A2 p_t.Idxs.length c2 p_t.Idxs) (h5 : RdS w (Iv 0 w.heap.size) (RF e_Str) 1 A5 p_r.Vals.length c5 p_r.Vals) (o3 : ok_Table p_t) (o4 : okS p_name) (o6 : ok_Row p_r) : Cal Try.prog 33 #[.agg #[.string (bs (p_t.Name)), .slice A1 p_t.Cols.length c1, .slice A2 p_t.Idxs.length c2], .string (bs (p_name)), .agg #[.slice A5 p_r.Vals.length c5]] w fun v w' => v = .tuple #[.string (bs ((s_IdxKey p_t p_name p_r).1)), .bool ((s_IdxKey p_t p_name p_r).2)] ∧ okS ((s_IdxKey p_t p_name p_r).1) ∧ Ex w w' := by
  have hol7 : p_t.Name.length ≤ 1073741824 := o3.1
  have hol8 := o3.2.1.1
  have hol9 := o3.2.2.1
  have hol10 : p_name.length ≤ 1073741824 := o4
  have hol11 := o6.1
  refine Cal.of (vs := [.agg #[.string (bs (p_t.Name)), .slice A1 p_t.Cols.length c1, .slice A2 p_t.Idxs.length c2], .string (bs (p_name)), .agg #[.slice A5 p_r.Vals.length c5]]) Try.func33 rfl Try.ntmps33 rfl ?_
  refine CW.seq ?_
  refine CW.region ?_
  refine SeqR.d1 rfl rfl rfl (yl_box (cs := [.string (bs (p_t.Name)), .slice A1 p_t.Cols.length c1, .slice A2 p_t.Idxs.length c2]) rfl rfl rfl ?_)
  intro b12 w13 hs14 hz15 hB16 hE17
  refine SeqR.d1 rfl rfl rfl (yl_box (cs := [.slice A5 p_r.Vals.length c5]) rfl rfl rfl ?_)
  intro b18 w19 hs20 hz21 hB22 hE23
  refine SeqR.d1 rfl rfl rfl (yl_assign rfl rfl ?_)
  refine SeqR.d1 rfl rfl rfl (yl_assign rfl rfl ?_)
  refine SeqR.done ?_
  refine tn ?_
  refine CW.seq ?_
  refine CW.region ?_
  have q24 := Box.ex hB16 hE23
  refine SeqR.d1 rfl rfl rfl (yl_loadN (cs := [.string (bs (p_t.Name)), .slice A1 p_t.Cols.length c1, .slice A2 p_t.Idxs.length c2]) Try.ty35 rfl rfl (q24.cells (n := 3) rfl) rfl ?_)
  refine SeqR.d1 rfl rfl rfl (yl_move rfl rfl ?_)
  have q25 := RdS.ex good_Str h1 hE17
  have q26 := RdS.ex good_Str q25 hE23
  have q27 := RdS.ex good_Idx h2 hE17
  have q28 := RdS.ex good_Idx q27 hE23
  refine SeqR.d1 rfl rfl rfl (yl_call Try.en86 rfl (opvs_cons rfl (opvs_cons rfl opvs_nil)) (Cal.mono (c_s_IdxAt p_t p_name (RdS.up q26 good_Str) (RdS.up q28 good_Idx) o3 o4) ?_))
  rintro v31 w29 ⟨rfl, ho30, hE32⟩
  have hE32z := Ex.size hE32
  refine SeqR.d1 rfl rfl rfl (yl_move rfl rfl ?_)
  refine SeqR.d1 rfl rfl rfl (yl_extract rfl rfl rfl ?_)
  refine SeqR.d1 rfl rfl rfl (yl_extract rfl rfl rfl ?_)
  refine SeqR.d1 rfl rfl rfl (yl_alloc Try.ty132 (cs := [.string (bs (([] : Str))), .int .i64 (0), .int .i64 (0)]) rfl rfl ?_)
  intro b33 w34 hs35 hz36 hB37 hE38
  refine SeqR.u rfl rfl (yl_store (vs := [.string (bs ((s_IdxAt p_t p_name).1.Name)), .int .i64 ((s_IdxAt p_t p_name).1.Col), .int .i64 ((s_IdxAt p_t p_name).1.Stage)]) Try.ty132 rfl rfl rfl rfl rfl rfl hB37 (Nat.le_of_ble_eq_true rfl) ?_)
  intro w39 hB40 hO41
  have hB40 : Box w39 b33 132 [.string (bs ((s_IdxAt p_t p_name).1.Name)), .int .i64 ((s_IdxAt p_t p_name).1.Col), .int .i64 ((s_IdxAt p_t p_name).1.Stage)] := hB40
  have hO41z := hO41.size
  refine SeqR.d1 rfl rfl rfl (yl_assign rfl rfl ?_)
  refine SeqR.done ?_
  refine tn ?_
  refine CW.seq ?_
  refine CW.seq ?_
  refine CW.region ?_
  refine SeqR.d1 rfl rfl rfl (yl_move rfl rfl ?_)
  refine SeqR.d1 rfl rfl rfl (yl_not rfl rfl ?_)
  refine SeqR.d1 rfl rfl rfl (yl_move rfl rfl ?_)
  refine bcase ((s_IdxAt p_t p_name).2) (fun hb42 => ?_) (fun hb42 => ?_)
  · obtain ⟨hb42p0, hb42p1, hb42p2, hb42p3⟩ := f_s_IdxAt hb42
    have q43 := Box.ex q24 hE32
    have q44 := Box.ex q43 hE38
    have q45 := Box.only q44 hO41 (by omega)
    refine SeqR.y rfl rfl rfl rfl rfl (not_t hb42) (yl_loadN (cs := [.string (bs (p_t.Name)), .slice A1 p_t.Cols.length c1, .slice A2 p_t.Idxs.length c2]) Try.ty35 rfl rfl (q45.cells (n := 3) rfl) rfl ?_)
    have q46 := Box.ex hB22 hE32
    have q47 := Box.ex q46 hE38
    have q48 := Box.only q47 hO41 (by omega)
    refine SeqR.y rfl rfl rfl rfl rfl (not_t hb42) (yl_loadN (cs := [.slice A5 p_r.Vals.length c5]) Try.ty37 rfl rfl (q48.cells (n := 1) rfl) rfl ?_)
    have q49 := RdS.ex good_Str q26 hE32
    have q50 := RdS.ex good_Str q49 hE38
    have q51 := RdS.only good_Str q50 hO41 (by simp only [Iv]; omega)
    have q52 := RdS.ex good_Idx q28 hE32
    have q53 := RdS.ex good_Idx q52 hE38
    have q54 := RdS.only good_Idx q53 hO41 (by simp only [Iv]; omega)
    have q55 := RdS.ex good_Str h5 hE17
    have q56 := RdS.ex good_Str q55 hE23
    have q57 := RdS.ex good_Str q56 hE32
    have q58 := RdS.ex good_Str q57 hE38
    have q59 := RdS.only good_Str q58 hO41 (by simp only [Iv]; omega)
    refine SeqR.y rfl rfl rfl rfl rfl (not_t hb42) (yl_call Try.en87 rfl (opvs_cons rfl (opvs_cons rfl opvs_nil)) (Cal.mono (c_s_l25Good p_t p_r (RdS.up q51 good_Str) (RdS.up q54 good_Idx) (RdS.up q59 good_Str) o3 o6) ?_))
    rintro v61 w60 ⟨rfl, hE62⟩
    have hE62z := Ex.size hE62
    refine SeqR.y rfl rfl rfl rfl rfl (not_t hb42) (yl_not rfl rfl ?_)
    refine SeqR.d1 rfl rfl rfl (yl_pick_f rfl rfl (not_t hb42) rfl ?_)
    refine SeqR.done ?_
    refine tn ?_
    refine bcase (s_l25Good p_t p_r) (fun hb63 => ?_) (fun hb63 => ?_)
    · obtain ⟨hb63p0, hb63p1⟩ := f_s_l25Good hb63
      refine CW.cond_f rfl (not_t hb63) ?_
      refine CW.skip ?_
      refine tn ?_
      refine CW.seq ?_
      refine CW.region ?_
      have q64 := Box.ex q45 hE62
      refine SeqR.d1 rfl rfl rfl (yl_loadN (cs := [.string (bs (p_t.Name)), .slice A1 p_t.Cols.length c1, .slice A2 p_t.Idxs.length c2]) Try.ty35 rfl rfl (q64.cells (n := 3) rfl) rfl ?_)
      have q65 := Box.ex hB40 hE62
      refine SeqR.d1 rfl rfl rfl (yl_loadN (cs := [.string (bs ((s_IdxAt p_t p_name).1.Name)), .int .i64 ((s_IdxAt p_t p_name).1.Col), .int .i64 ((s_IdxAt p_t p_name).1.Stage)]) Try.ty132 rfl rfl (q65.cells (n := 3) rfl) rfl ?_)
      have q66 := Box.ex q48 hE62
      refine SeqR.d1 rfl rfl rfl (yl_loadN (cs := [.slice A5 p_r.Vals.length c5]) Try.ty37 rfl rfl (q66.cells (n := 1) rfl) rfl ?_)
      have q67 := RdS.ex good_Str q51 hE62
      have q68 := RdS.ex good_Idx q54 hE62
      have q69 := RdS.ex good_Str q59 hE62
      refine SeqR.d1 rfl rfl rfl (yl_call Try.en88 rfl (opvs_cons rfl (opvs_cons rfl (opvs_cons rfl opvs_nil))) (Cal.mono (c_s_l25Entry p_t ((s_IdxAt p_t p_name).1) p_r (RdS.up q67 good_Str) (RdS.up q68 good_Idx) (RdS.up q69 good_Str) o3 ho30 o6 (by first | omega | assumption | (simp only [IntKind.wrap_i64] at *; omega)) (by first | omega | assumption | (simp only [IntKind.wrap_i64] at *; omega)) (by first | omega | assumption | (simp only [IntKind.wrap_i64] at *; omega))) ?_))
      rintro v72 w70 ⟨rfl, ho71, hE73⟩
      have hE73z := Ex.size hE73
      refine SeqR.d1 rfl rfl rfl (yl_assign rfl rfl ?_)
      refine SeqR.d1 rfl rfl rfl (yl_assign rfl rfl ?_)
      refine SeqR.done ?_
      refine tn ?_
      refine CW.ret ?_
      refine rr rfl (.cons rfl (.cons rfl .nil)) ?_
      have hM74 : (s_IdxKey p_t p_name p_r) = (((s_l25Entry p_t ((s_IdxAt p_t p_name).1) p_r), true)) := by simp only [s_IdxKey, hb42, hb63, cond_true, cond_false, loopE_done, loopE_ret]
      rw [hM74]
      have q75 := Ex.trans (Ex.refl w) hE17
      have q76 := Ex.trans q75 hE23
      have q77 := Ex.trans q76 hE32
      have q78 := Ex.trans q77 hE38
      have q79 := Below.only q78 hO41 (by omega)
      have q80 := Ex.trans q79 hE62
      have q81 := Ex.trans q80 hE73
      exact ⟨rfl, ho71, q81⟩
    · skip
      refine CW.cond_t rfl (not_f hb63) ?_
      refine CW.seq ?_
      refine CW.region ?_
      refine SeqR.d1 rfl rfl rfl (yl_assign rfl rfl ?_)
      refine SeqR.d1 rfl rfl rfl (yl_assign rfl rfl ?_)
      refine SeqR.done ?_
      refine tn ?_
      refine CW.ret ?_
      refine tr ?_
      refine rr rfl (.cons rfl (.cons rfl .nil)) ?_
      have hM82 : (s_IdxKey p_t p_name p_r) = ((([] : Str), false)) := by simp only [s_IdxKey, hb42, hb63, cond_true, cond_false, loopE_done, loopE_ret]
      rw [hM82]
      have q83 := Ex.trans (Ex.refl w) hE17
      have q84 := Ex.trans q83 hE23
      have q85 := Ex.trans q84 hE32
      have q86 := Ex.trans q85 hE38
      have q87 := Below.only q86 hO41 (by omega)
      have q88 := Ex.trans q87 hE62
      exact ⟨rfl, (okS.lit rfl), q88⟩
  · skip
    refine SeqR.z rfl rfl rfl rfl rfl (not_f hb42) ?_
    refine SeqR.z rfl rfl rfl rfl rfl (not_f hb42) ?_
    refine SeqR.z rfl rfl rfl rfl rfl (not_f hb42) ?_
    refine SeqR.z rfl rfl rfl rfl rfl (not_f hb42) ?_
    refine SeqR.d1 rfl rfl rfl (yl_pick_t rfl rfl (not_f hb42) rfl ?_)
    refine SeqR.done ?_
    refine tn ?_
    refine CW.cond_t rfl rfl ?_
    refine CW.seq ?_
    refine CW.region ?_
    refine SeqR.d1 rfl rfl rfl (yl_assign rfl rfl ?_)
    refine SeqR.d1 rfl rfl rfl (yl_assign rfl rfl ?_)
    refine SeqR.done ?_
    refine tn ?_
    refine CW.ret ?_
    refine tr ?_
    refine rr rfl (.cons rfl (.cons rfl .nil)) ?_
    have hM89 : (s_IdxKey p_t p_name p_r) = ((([] : Str), false)) := by simp only [s_IdxKey, hb42, cond_true, cond_false, loopE_done, loopE_ret]
    rw [hM89]
    have q90 := Ex.trans (Ex.refl w) hE17
    have q91 := Ex.trans q90 hE23
    have q92 := Ex.trans q91 hE32
    have q93 := Ex.trans q92 hE38
    have q94 := Below.only q93 hO41 (by omega)
    exact ⟨rfl, (okS.lit rfl), q94⟩
set_option maxRecDepth 100000 in
set_option maxHeartbeats 2000000 in
theorem c_l_toRow {A1 : Option Addr} {c1 : Nat} {w : World} (p_a : DRow) (h1 : RdS w (Iv 0 w.heap.size) (RF e_Str) 1 A1 p_a.Vals.length c1 p_a.Vals) (o2 : ok_Row p_a) : Cal Try.prog 34 #[.agg #[.slice A1 p_a.Vals.length c1]] w fun v w' => ∃ A_1 c_1 lo_1 hi_1, v = .agg #[.slice A_1 p_a.Vals.length c_1] ∧ OwnL w' lo_1 hi_1 9 1 (RF e_Str) A_1 p_a.Vals.length c_1 p_a.Vals ∧ (w.heap.size ≤ lo_1 ∧ lo_1 ≤ hi_1 ∧ hi_1 ≤ w'.heap.size) ∧ Ex w w' := by
  have hol3 := o2.1
  refine Cal.of (vs := [.agg #[.slice A1 p_a.Vals.length c1]]) Try.func34 rfl Try.ntmps34 rfl ?_
  refine CW.seq ?_
  refine CW.region ?_
  refine SeqR.d1 rfl rfl rfl (yl_box (cs := [.slice A1 p_a.Vals.length c1]) rfl rfl rfl ?_)
  intro b4 w5 hs6 hz7 hB8 hE9
  refine SeqR.d1 rfl rfl rfl (yl_alloc Try.ty37 (cs := [.slice none 0 0]) rfl rfl ?_)
  intro b10 w11 hs12 hz13 hB14 hE15
  refine SeqR.done ?_
  refine tn ?_
  refine CW.seq ?_
  refine CW.region ?_
  refine SeqR.d1 rfl rfl rfl (yl_alloc Try.ty37 (cs := [.slice none 0 0]) rfl rfl ?_)
  intro b16 w17 hs18 hz19 hB20 hE21
  refine SeqR.done ?_
  refine tn ?_
  refine CW.seq ?_
  refine CW.region ?_
  refine SeqR.d1 rfl rfl rfl (yl_fieldAddr Try.fd27_0 rfl rfl ?_)
  have q22 := Box.ex hB8 hE15
  have q23 := Box.ex q22 hE21
  refine SeqR.d1 rfl rfl rfl (yl_load1 Try.ty22 rfl rfl ((q23.cell 0).trans rfl) ?_)
  have q24 := RdS.ex good_Str h1 hE9
  have q25 := RdS.ex good_Str q24 hE15
  have q26 := RdS.ex good_Str q25 hE21
  refine SeqR.d1 rfl rfl rfl (yl_call Try.en70 rfl (opvs_cons rfl opvs_nil) (Cal.mono (c_l_toStringS p_a.Vals (RdS.up q26 good_Str) o2) ?_))
  rintro v29 w27 ⟨A28, c28, lo28, hi28, rfl, h28, hrn31, hE30⟩
  have hE30z := Ex.size hE30
  refine SeqR.d1 rfl rfl rfl (yl_fieldAddr Try.fd37_0 rfl rfl ?_)
  have q32 := Box.ex hB20 hE30
  refine SeqR.u rfl rfl (yl_store (vs := [.slice A28 p_a.Vals.length c28]) Try.ty22 rfl rfl rfl rfl rfl rfl q32 (Nat.le_of_ble_eq_true rfl) ?_)
  intro w33 hB34 hO35
  have hB34 : Box w33 b16 37 [.slice A28 p_a.Vals.length c28] := hB34
  have hO35z := hO35.size
  refine SeqR.done ?_
  refine tn ?_
  refine CW.seq ?_
  refine CW.region ?_
  refine SeqR.d1 rfl rfl rfl (yl_loadN (cs := [.slice A28 p_a.Vals.length c28]) Try.ty37 rfl rfl (hB34.cells (n := 1) rfl) rfl ?_)
  have q36 := Box.ex hB14 hE21
  have q37 := Box.ex q36 hE30
  have q38 := Box.only q37 hO35 (by omega)
  refine SeqR.u rfl rfl (yl_store (vs := [.slice A28 p_a.Vals.length c28]) Try.ty37 rfl rfl rfl rfl rfl rfl q38 (Nat.le_of_ble_eq_true rfl) ?_)
  intro w39 hB40 hO41
  have hB40 : Box w39 b10 37 [.slice A28 p_a.Vals.length c28] := hB40
  have hO41z := hO41.size
  refine SeqR.done ?_
  refine tn ?_
  refine CW.ret ?_
  refine rr rfl (.cons ⟨_, rfl, run_loadN Try.ty37 (cs := [.slice A28 p_a.Vals.length c28]) rfl (hB40.cells (n := 1) rfl)⟩ .nil) ?_
  have hM42 : p_a = (p_a) := (to_Row _).symm.trans <| by simp only [l_toRow, cond_true, cond_false, loopE_done, loopE_ret]
  have q43 := OwnL.only good_Str h28 hO35 (by omega)
  have q44 := OwnL.only good_Str q43 hO41 (by omega)
  rw [hM42]
  have q45 := Ex.trans (Ex.refl w) hE9
  have q46 := Ex.trans q45 hE15
  have q47 := Ex.trans q46 hE21
  have q48 := Ex.trans q47 hE30
  have q49 := Below.only q48 hO35 (by omega)
  have q50 := Below.only q49 hO41 (by omega)
  exact ⟨A28, c28, lo28, hi28, rfl, q44, (by omega), q50⟩
set_option maxRecDepth 100000 in
set_option maxHeartbeats 2000000 in
theorem c_i_within {w : World} (p_n : Int) (p_low : Int) (p_high : Int) : Cal Try.prog 129 #[.int .i64 (p_n), .int .i64 (p_low), .int .i64 (p_high)] w fun v w' => v = .bool ((i_within p_n p_low p_high)) ∧ Ex w w' := by
  refine Cal.of (vs := [.int .i64 (p_n), .int .i64 (p_low), .int .i64 (p_high)]) Try.func129 rfl Try.ntmps129 rfl ?_
  refine CW.seq ?_
  refine CW.region ?_
  refine SeqR.d1 rfl rfl rfl (yl_assign rfl rfl ?_)
  refine SeqR.done ?_
  refine tn ?_
  refine CW.seq ?_
  refine CW.region ?_
  refine SeqR.d1 rfl rfl rfl (yl_move rfl rfl ?_)
  refine SeqR.d1 rfl rfl rfl (yl_move rfl rfl ?_)
  refine SeqR.d1 rfl rfl rfl (yl_geq rfl rfl rfl ?_)
  refine SeqR.d1 rfl rfl rfl (yl_move rfl rfl ?_)
  refine bcase (decide (p_low ≤ p_n)) (fun hb1 => ?_) (fun hb1 => ?_)
  · have hb1p := dec_t hb1
    refine SeqR.y rfl rfl rfl rfl rfl hb1 (yl_move rfl rfl ?_)
    refine SeqR.y rfl rfl rfl rfl rfl hb1 (yl_move rfl rfl ?_)
    refine SeqR.y rfl rfl rfl rfl rfl hb1 (yl_leq rfl rfl rfl ?_)
    refine SeqR.d1 rfl rfl rfl (yl_pick_t rfl rfl hb1 rfl ?_)
    refine SeqR.d1 rfl rfl rfl (yl_assign rfl rfl ?_)
    refine SeqR.done ?_
    refine tn ?_
    refine CW.ret ?_
    refine rr rfl (.cons rfl .nil) ?_
    have hM2 : (i_within p_n p_low p_high) = (decide (p_n ≤ p_high)) := by simp only [i_within, hb1, cond_true, cond_false, loopE_done, loopE_ret]
    rw [hM2]
    exact ⟨rfl, (Ex.refl w)⟩
  · have hb1p := dec_f hb1
    refine SeqR.z rfl rfl rfl rfl rfl hb1 ?_
    refine SeqR.z rfl rfl rfl rfl rfl hb1 ?_
    refine SeqR.z rfl rfl rfl rfl rfl hb1 ?_
    refine SeqR.d1 rfl rfl rfl (yl_pick_f rfl rfl hb1 rfl ?_)
    refine SeqR.d1 rfl rfl rfl (yl_assign rfl rfl ?_)
    refine SeqR.done ?_
    refine tn ?_
    refine CW.ret ?_
    refine rr rfl (.cons rfl .nil) ?_
    have hM3 : (i_within p_n p_low p_high) = (false) := by simp only [i_within, hb1, cond_true, cond_false, loopE_done, loopE_ret]
    rw [hM3]
    exact ⟨rfl, (Ex.refl w)⟩
set_option maxRecDepth 100000 in
set_option maxHeartbeats 2000000 in
theorem c_i_isStage {w : World} (p_stage : Int) : Cal Try.prog 108 #[.int .i64 (p_stage)] w fun v w' => v = .bool ((i_isStage p_stage)) ∧ Ex w w' := by
  refine Cal.of (vs := [.int .i64 (p_stage)]) Try.func108 rfl Try.ntmps108 rfl ?_
  refine CW.seq ?_
  refine CW.region ?_
  refine SeqR.d1 rfl rfl rfl (yl_assign rfl rfl ?_)
  refine SeqR.done ?_
  refine tn ?_
  refine CW.seq ?_
  refine CW.region ?_
  refine SeqR.d1 rfl rfl rfl (yl_move rfl rfl ?_)
  refine SeqR.d1 rfl rfl rfl (yl_call Try.en129 rfl (opvs_cons rfl (opvs_cons rfl (opvs_cons rfl opvs_nil))) (Cal.mono (c_i_within p_stage 0 3) ?_))
  rintro v2 w1 ⟨rfl, hE3⟩
  have hE3z := Ex.size hE3
  refine SeqR.d1 rfl rfl rfl (yl_assign rfl rfl ?_)
  refine SeqR.done ?_
  refine tn ?_
  refine CW.ret ?_
  refine rr rfl (.cons rfl .nil) ?_
  have hM4 : (i_isStage p_stage) = ((i_within p_stage 0 3)) := by simp only [i_isStage, cond_true, cond_false, loopE_done, loopE_ret]
  rw [hM4]
  have q5 := Ex.trans (Ex.refl w) hE3
  exact ⟨rfl, q5⟩
set_option maxRecDepth 100000 in
set_option maxHeartbeats 2000000 in
theorem c_i_areLetters {w : World} (p_s : Str) (p_most : Int) (o1 : okS p_s) : Cal Try.prog 142 #[.string (bs (p_s)), .int .i64 (p_most)] w fun v w' => v = .bool ((i_areLetters p_s p_most)) ∧ Ex w w' := by
  have hol2 : p_s.length ≤ 1073741824 := o1
  refine Cal.of (vs := [.string (bs (p_s)), .int .i64 (p_most)]) Try.func142 rfl Try.ntmps142 rfl ?_
  refine CW.seq ?_
  refine CW.region ?_
  refine SeqR.d1 rfl rfl rfl (yl_assign rfl rfl ?_)
  refine SeqR.done ?_
  refine tn ?_
  refine CW.seq ?_
  refine CW.seq ?_
  refine CW.region ?_
  refine SeqR.d1 rfl rfl rfl (yl_move rfl rfl ?_)
  refine SeqR.d1 rfl rfl rfl (yl_slen Try.un9 (a := p_s) rfl rfl ?_)
  refine SeqR.d1 rfl rfl rfl (yl_move rfl rfl ?_)
  refine SeqR.done ?_
  refine tn ?_
  refine CW.block ?_
  refine CW.loop (fun m4 L5 w6 => ∃ (k3 : Nat), m4 = p_s.length - k3 ∧ k3 ≤ p_s.length ∧ w.heap.size ≤ w6.heap.size ∧ lkp L5 0 = some (.string (bs (p_s))) ∧ lkp L5 1 = some (.int .i64 (p_most)) ∧ lkp L5 7 = some (.int .i64 ((p_s.length : Int))) ∧ lkp L5 8 = some (.int .i64 ((k3 : Int))) ∧ Ex w w6 ∧ loopM (B_i_areLetters_0 p_s p_most) (p_s.length - k3) k3 () = loopM (B_i_areLetters_0 p_s p_most) (p_s.length - 0) 0 ()) (p_s.length - 0) ?_ ?_
  · exact ⟨0, rfl, (by omega), Nat.le_refl _, rfl, rfl, rfl, rfl, (Ex.refl w), rfl⟩
  · rintro m7 L8 w9 ⟨k3, rfl, hk10, hsz12, hl13, hl14, hl15, hl16, hf17, hI11⟩
    refine CW.sub (Sub.cons hl13 (Sub.cons hl14 (Sub.cons hl15 (Sub.cons hl16 (Sub.nil _))))) ?_
    have hf17z := Ex.size hf17
    have hbg18 : p_s.length ≤ 1073741824 := o1
    rcases Nat.lt_or_ge k3 p_s.length with hlt19 | hlt19
    · skip
      refine CW.seq ?_
      refine CW.region ?_
      refine SeqR.d1 rfl rfl rfl (yl_lss rfl rfl rfl ?_)
      refine SeqR.done ?_
      refine tn ?_
      refine CW.seq ?_
      refine CW.cond_t rfl (lt_t hlt19) ?_
      refine CW.skip ?_
      refine tn ?_
      refine CW.seq ?_
      refine CW.block ?_
      refine CW.seq ?_
      refine CW.region ?_
      refine SeqR.d1 rfl rfl rfl (yl_move rfl rfl ?_)
      refine SeqR.d1 rfl rfl rfl (yl_assign rfl rfl ?_)
      refine SeqR.done ?_
      refine tn ?_
      refine CW.seq ?_
      refine CW.region ?_
      refine SeqR.d1 rfl rfl rfl (yl_move rfl rfl ?_)
      refine SeqR.d1 rfl rfl rfl (yl_move rfl rfl ?_)
      refine SeqR.d1 rfl rfl rfl (yl_sindexN Try.un9 (a := p_s) rfl rfl rfl (by first | omega | assumption | (simp only [IntKind.wrap_i64] at *; omega)) ?_)
      refine SeqR.d1 rfl rfl rfl (yl_lss rfl rfl rfl ?_)
      refine SeqR.d1 rfl rfl rfl (yl_move rfl rfl ?_)
      refine bcase (decide (((p_s.getD k3 0).toNat : Int) < 97)) (fun hb20 => ?_) (fun hb20 => ?_)
      · have hb20p := dec_t hb20
        refine SeqR.z rfl rfl rfl rfl rfl hb20 ?_
        refine SeqR.z rfl rfl rfl rfl rfl hb20 ?_
        refine SeqR.z rfl rfl rfl rfl rfl hb20 ?_
        refine SeqR.z rfl rfl rfl rfl rfl hb20 ?_
        refine SeqR.d1 rfl rfl rfl (yl_pick_t rfl rfl hb20 rfl ?_)
        refine SeqR.done ?_
        refine tn ?_
        refine CW.cond_t rfl rfl ?_
        refine CW.seq ?_
        refine CW.region ?_
        refine SeqR.d1 rfl rfl rfl (yl_assign rfl rfl ?_)
        refine SeqR.done ?_
        refine tn ?_
        refine CW.ret ?_
        refine br ?_
        refine tr ?_
        refine tr ?_
        have hB22 : B_i_areLetters_0 p_s p_most k3 () = .ret false := by simp only [B_i_areLetters_0, hb20, cond_true, cond_false, loopE_done, loopE_ret]
        have hL21 : loopM (B_i_areLetters_0 p_s p_most) (p_s.length - 0) 0 () = .ret false := hI11.symm.trans (loopM.ret hlt19 hB22)
        refine br ?_
        refine tr ?_
        refine rr rfl (.cons rfl .nil) ?_
        have hM23 : (i_areLetters p_s p_most) = (false) := by simp only [i_areLetters, hb20, hL21, cond_true, cond_false, loopE_done, loopE_ret]
        rw [hM23]
        exact ⟨rfl, hf17⟩
      · have hb20p := dec_f hb20
        refine SeqR.y rfl rfl rfl rfl rfl hb20 (yl_move rfl rfl ?_)
        refine SeqR.y rfl rfl rfl rfl rfl hb20 (yl_move rfl rfl ?_)
        refine SeqR.y rfl rfl rfl rfl rfl hb20 (yl_sindexN Try.un9 (a := p_s) rfl rfl rfl (by first | omega | assumption | (simp only [IntKind.wrap_i64] at *; omega)) ?_)
        refine SeqR.y rfl rfl rfl rfl rfl hb20 (yl_gtr rfl rfl rfl ?_)
        refine SeqR.d1 rfl rfl rfl (yl_pick_f rfl rfl hb20 rfl ?_)
        refine SeqR.done ?_
        refine tn ?_
        refine bcase (decide (122 < ((p_s.getD k3 0).toNat : Int))) (fun hb24 => ?_) (fun hb24 => ?_)
        · have hb24p := dec_t hb24
          refine CW.cond_t rfl hb24 ?_
          refine CW.seq ?_
          refine CW.region ?_
          refine SeqR.d1 rfl rfl rfl (yl_assign rfl rfl ?_)
          refine SeqR.done ?_
          refine tn ?_
          refine CW.ret ?_
          refine br ?_
          refine tr ?_
          refine tr ?_
          have hB26 : B_i_areLetters_0 p_s p_most k3 () = .ret false := by simp only [B_i_areLetters_0, hb20, hb24, cond_true, cond_false, loopE_done, loopE_ret]
          have hL25 : loopM (B_i_areLetters_0 p_s p_most) (p_s.length - 0) 0 () = .ret false := hI11.symm.trans (loopM.ret hlt19 hB26)
          refine br ?_
          refine tr ?_
          refine rr rfl (.cons rfl .nil) ?_
          have hM27 : (i_areLetters p_s p_most) = (false) := by simp only [i_areLetters, hb20, hb24, hL25, cond_true, cond_false, loopE_done, loopE_ret]
          rw [hM27]
          exact ⟨rfl, hf17⟩
        · have hb24p := dec_f hb24
          refine CW.cond_f rfl hb24 ?_
          refine CW.skip ?_
          refine bn ?_
          refine tn ?_
          refine CW.region ?_
          refine SeqR.d1 rfl rfl rfl (yl_inc rfl rfl rfl (by omega) ?_)
          refine SeqR.d1 rfl rfl rfl (yl_move rfl rfl ?_)
          refine SeqR.done ?_
          refine tn ?_
          have hB28 : B_i_areLetters_0 p_s p_most k3 () = .cont () := by simp only [B_i_areLetters_0, hb20, hb24, cond_true, cond_false, loopE_done, loopE_ret]
          exact ⟨p_s.length - (k3 + 1), by omega, k3 + 1, rfl, hlt19, (by omega), rfl, rfl, rfl, rfl, hf17, (loopM.cont hlt19 hB28).symm.trans hI11⟩
    · skip
      refine CW.seq ?_
      refine CW.region ?_
      refine SeqR.d1 rfl rfl rfl (yl_lss rfl rfl rfl ?_)
      refine SeqR.done ?_
      refine tn ?_
      refine CW.seq ?_
      refine CW.cond_f rfl (lt_f hlt19) ?_
      refine CW.exit ?_
      refine tx ?_
      refine tx ?_
      have hL29 : loopM (B_i_areLetters_0 p_s p_most) (p_s.length - 0) 0 () = .done () := hI11.symm.trans (loopM.stop hlt19)
      refine bx ?_
      refine tn ?_
      refine CW.seq ?_
      refine CW.region ?_
      refine SeqR.d1 rfl rfl rfl (yl_move rfl rfl ?_)
      refine SeqR.d1 rfl rfl rfl (yl_slen Try.un9 (a := p_s) rfl rfl ?_)
      refine SeqR.d1 rfl rfl rfl (yl_move rfl rfl ?_)
      refine SeqR.d1 rfl rfl rfl (yl_call Try.en129 rfl (opvs_cons rfl (opvs_cons rfl (opvs_cons rfl opvs_nil))) (Cal.mono (c_i_within (p_s.length : Int) 1 p_most) ?_))
      rintro v31 w30 ⟨rfl, hE32⟩
      have hE32z := Ex.size hE32
      refine SeqR.d1 rfl rfl rfl (yl_assign rfl rfl ?_)
      refine SeqR.done ?_
      refine tn ?_
      refine CW.ret ?_
      refine rr rfl (.cons rfl .nil) ?_
      have hM33 : (i_areLetters p_s p_most) = ((i_within (p_s.length : Int) 1 p_most)) := by simp only [i_areLetters, hL29, cond_true, cond_false, loopE_done, loopE_ret]
      rw [hM33]
      have q34 := Ex.trans hf17 hE32
      exact ⟨rfl, q34⟩
set_option maxRecDepth 100000 in
set_option maxHeartbeats 2000000 in
theorem c_g_slices_Index_string {A1 : Option Addr} {c1 : Nat} {w : World} (p_s : List Str) (p_v : Str) (h1 : RdS w (Iv 0 w.heap.size) (RF e_Str) 1 A1 p_s.length c1 p_s) (o2 : (okL okS) p_s) (o3 : okS p_v) : Cal Try.prog 186 #[.slice A1 p_s.length c1, .string (bs (p_v))] w fun v w' => v = .int .i64 ((g_slices_Index_string p_s p_v)) ∧ Ex w w' := by
  have hol4 := o2.1
  have hol5 : p_v.length ≤ 1073741824 := o3
  refine Cal.of (vs := [.slice A1 p_s.length c1, .string (bs (p_v))]) Try.func186 rfl Try.ntmps186 rfl ?_
  refine CW.seq ?_
  refine CW.region ?_
  refine SeqR.d1 rfl rfl rfl (yl_assign rfl rfl ?_)
  refine SeqR.done ?_
  refine tn ?_
  refine CW.seq ?_
  refine CW.seq ?_
  refine CW.region ?_
  refine SeqR.d1 rfl rfl rfl (yl_move rfl rfl ?_)
  refine SeqR.d1 rfl rfl rfl (yl_len Try.un22 rfl rfl ?_)
  refine SeqR.d1 rfl rfl rfl (yl_move rfl rfl ?_)
  refine SeqR.done ?_
  refine tn ?_
  refine CW.block ?_
  refine CW.loop (fun m7 L8 w9 => ∃ (k6 : Nat), m7 = p_s.length - k6 ∧ k6 ≤ p_s.length ∧ w.heap.size ≤ w9.heap.size ∧ lkp L8 0 = some (.slice A1 p_s.length c1) ∧ lkp L8 1 = some (.string (bs (p_v))) ∧ lkp L8 7 = some (.int .i64 ((p_s.length : Int))) ∧ lkp L8 8 = some (.int .i64 ((k6 : Int))) ∧ RdS w9 (Iv 0 w.heap.size) (RF e_Str) 1 A1 p_s.length c1 p_s ∧ Ex w w9 ∧ loopM (B_g_slices_Index_string_0 p_s p_v) (p_s.length - k6) k6 () = loopM (B_g_slices_Index_string_0 p_s p_v) (p_s.length - 0) 0 ()) (p_s.length - 0) ?_ ?_
  · exact ⟨0, rfl, (by omega), Nat.le_refl _, rfl, rfl, rfl, rfl, h1, (Ex.refl w), rfl⟩
  · rintro m10 L11 w12 ⟨k6, rfl, hk13, hsz15, hl16, hl17, hl18, hl19, hf20, hf21, hI14⟩
    refine CW.sub (Sub.cons hl16 (Sub.cons hl17 (Sub.cons hl18 (Sub.cons hl19 (Sub.nil _))))) ?_
    have hf21z := Ex.size hf21
    have hbg22 := RdS.big hf20
    rcases Nat.lt_or_ge k6 p_s.length with hlt23 | hlt23
    · skip
      refine CW.seq ?_
      refine CW.region ?_
      refine SeqR.d1 rfl rfl rfl (yl_lss rfl rfl rfl ?_)
      refine SeqR.done ?_
      refine tn ?_
      refine CW.seq ?_
      refine CW.cond_t rfl (lt_t hlt23) ?_
      refine CW.skip ?_
      refine tn ?_
      refine CW.seq ?_
      refine CW.block ?_
      refine CW.seq ?_
      refine CW.region ?_
      refine SeqR.d1 rfl rfl rfl (yl_move rfl rfl ?_)
      refine SeqR.d1 rfl rfl rfl (yl_assign rfl rfl ?_)
      refine SeqR.done ?_
      refine tn ?_
      refine CW.seq ?_
      refine CW.region ?_
      refine SeqR.d1 rfl rfl rfl (yl_move rfl rfl ?_)
      refine SeqR.d1 rfl rfl rfl (yl_move rfl rfl ?_)
      refine SeqR.d1 rfl rfl rfl (yl_move rfl rfl ?_)
      obtain ⟨eb24, eo24, ec24, eA24, eS24, ebl24, el24, eR24, eC24⟩ := RdS.atD hf20 d_Str (i := k6) (by first | omega | assumption)
      obtain rfl := eR24
      have eC24 : Cells w12 eb24 (eo24 + k6 * 1) [.string (bs ((p_s.getD k6 d_Str)))] := eC24
      refine SeqR.d1 rfl rfl rfl (yl_indexAddrN Try.un22 Try.ty9 rfl rfl rfl eA24 (by first | omega | assumption | (simp only [IntKind.wrap_i64] at *; omega)) ?_)
      refine SeqR.d1 rfl rfl rfl (yl_load1 Try.ty9 rfl rfl (eC24 0 _ rfl) ?_)
      refine SeqR.d1 rfl rfl rfl (yl_seql (a := p_v) (b := (p_s.getD k6 d_Str)) rfl rfl rfl ?_)
      refine SeqR.done ?_
      refine tn ?_
      refine bcase (p_v == (p_s.getD k6 d_Str)) (fun hb25 => ?_) (fun hb25 => ?_)
      · skip
        refine CW.cond_t rfl hb25 ?_
        refine CW.seq ?_
        refine CW.region ?_
        refine SeqR.d1 rfl rfl rfl (yl_move rfl rfl ?_)
        refine SeqR.d1 rfl rfl rfl (yl_assign rfl rfl ?_)
        refine SeqR.done ?_
        refine tn ?_
        refine CW.ret ?_
        refine br ?_
        refine tr ?_
        refine tr ?_
        have hB27 : B_g_slices_Index_string_0 p_s p_v k6 () = .ret (k6 : Int) := by simp only [B_g_slices_Index_string_0, hb25, cond_true, cond_false, loopE_done, loopE_ret]
        have hL26 : loopM (B_g_slices_Index_string_0 p_s p_v) (p_s.length - 0) 0 () = .ret (k6 : Int) := hI14.symm.trans (loopM.ret hlt23 hB27)
        refine br ?_
        refine tr ?_
        refine rr rfl (.cons rfl .nil) ?_
        have hM28 : (g_slices_Index_string p_s p_v) = ((k6 : Int)) := by simp only [g_slices_Index_string, hb25, hL26, cond_true, cond_false, loopE_done, loopE_ret]
        rw [hM28]
        exact ⟨rfl, hf21⟩
      · skip
        refine CW.cond_f rfl hb25 ?_
        refine CW.skip ?_
        refine bn ?_
        refine tn ?_
        refine CW.region ?_
        refine SeqR.d1 rfl rfl rfl (yl_inc rfl rfl rfl (by omega) ?_)
        refine SeqR.d1 rfl rfl rfl (yl_move rfl rfl ?_)
        refine SeqR.done ?_
        refine tn ?_
        have hB29 : B_g_slices_Index_string_0 p_s p_v k6 () = .cont () := by simp only [B_g_slices_Index_string_0, hb25, cond_true, cond_false, loopE_done, loopE_ret]
        exact ⟨p_s.length - (k6 + 1), by omega, k6 + 1, rfl, hlt23, (by omega), rfl, rfl, rfl, rfl, hf20, hf21, (loopM.cont hlt23 hB29).symm.trans hI14⟩
    · skip
      refine CW.seq ?_
      refine CW.region ?_
      refine SeqR.d1 rfl rfl rfl (yl_lss rfl rfl rfl ?_)
      refine SeqR.done ?_
      refine tn ?_
      refine CW.seq ?_
      refine CW.cond_f rfl (lt_f hlt23) ?_
      refine CW.exit ?_
      refine tx ?_
      refine tx ?_
      have hL30 : loopM (B_g_slices_Index_string_0 p_s p_v) (p_s.length - 0) 0 () = .done () := hI14.symm.trans (loopM.stop hlt23)
      refine bx ?_
      refine tn ?_
      refine CW.seq ?_
      refine CW.region ?_
      refine SeqR.d1 rfl rfl rfl (yl_assign rfl rfl ?_)
      refine SeqR.done ?_
      refine tn ?_
      refine CW.ret ?_
      refine rr rfl (.cons rfl .nil) ?_
      have hM31 : (g_slices_Index_string p_s p_v) = (-1) := by simp only [g_slices_Index_string, hL30, cond_true, cond_false, loopE_done, loopE_ret]
      rw [hM31]
      exact ⟨rfl, hf21⟩
set_option maxRecDepth 100000 in
set_option maxHeartbeats 2000000 in
theorem c_g_slices_Contains_string {A1 : Option Addr} {c1 : Nat} {w : World} (p_s : List Str) (p_v : Str) (h1 : RdS w (Iv 0 w.heap.size) (RF e_Str) 1 A1 p_s.length c1 p_s) (o2 : (okL okS) p_s) (o3 : okS p_v) : Cal Try.prog 143 #[.slice A1 p_s.length c1, .string (bs (p_v))] w fun v w' => v = .bool ((g_slices_Contains_string p_s p_v)) ∧ Ex w w' := by
  have hol4 := o2.1
  have hol5 : p_v.length ≤ 1073741824 := o3
  refine Cal.of (vs := [.slice A1 p_s.length c1, .string (bs (p_v))]) Try.func143 rfl Try.ntmps143 rfl ?_
  refine CW.seq ?_
  refine CW.region ?_
  refine SeqR.d1 rfl rfl rfl (yl_assign rfl rfl ?_)
  refine SeqR.done ?_
  refine tn ?_
  refine CW.seq ?_
  refine CW.region ?_
  refine SeqR.d1 rfl rfl rfl (yl_move rfl rfl ?_)
  refine SeqR.d1 rfl rfl rfl (yl_move rfl rfl ?_)
  refine SeqR.d1 rfl rfl rfl (yl_call Try.en186 rfl (opvs_cons rfl (opvs_cons rfl opvs_nil)) (Cal.mono (c_g_slices_Index_string p_s p_v (RdS.up h1 good_Str) o2 o3) ?_))
  rintro v7 w6 ⟨rfl, hE8⟩
  have hE8z := Ex.size hE8
  refine SeqR.d1 rfl rfl rfl (yl_geq rfl rfl rfl ?_)
  refine SeqR.d1 rfl rfl rfl (yl_assign rfl rfl ?_)
  refine SeqR.done ?_
  refine tn ?_
  refine CW.ret ?_
  refine rr rfl (.cons rfl .nil) ?_
  have hM9 : (g_slices_Contains_string p_s p_v) = (decide (0 ≤ (g_slices_Index_string p_s p_v))) := by simp only [g_slices_Contains_string, cond_true, cond_false, loopE_done, loopE_ret]
  rw [hM9]
  have q10 := Ex.trans (Ex.refl w) hE8
  exact ⟨rfl, q10⟩
end Go.Proofs.Ytmlfbjlkccnpmaa
