/- Next To: what each call returns, part 2. -/
import Derived.Test.YtmlfbjlkccnpmaaNextToC1
set_option linter.unusedVariables false
set_option linter.unusedSimpArgs false
namespace Go.Proofs.Ytmlfbjlkccnpmaa
open Go.RowKit Go.X
set_option maxRecDepth 100000 in
set_option maxHeartbeats 2000000 in
theorem c_s_l24SameCols {A1 : Option Addr} {c1 : Nat} {A2 : Option Addr} {c2 : Nat} {A4 : Option Addr} {c4 : Nat} {A5 : Option Addr} {c5 : Nat} {w : World} (p_0 : DTable) (p_1 : DTable) (h1 : RdS w (Iv 0 w.heap.size) (RF e_Str) 1 A1 p_0.Cols.length c1 p_0.Cols) (h2 : RdS w (Iv 0 w.heap.size) (RF e_Idx) 3 A2 p_0.Idxs.length c2 p_0.Idxs) (h4 : RdS w (Iv 0 w.heap.size) (RF e_Str) 1 A4 p_1.Cols.length c4 p_1.Cols) (h5 : RdS w (Iv 0 w.heap.size) (RF e_Idx) 3 A5 p_1.Idxs.length c5 p_1.Idxs) (o3 : ok_Table p_0) (o6 : ok_Table p_1) : Cal Try.prog 92 #[.agg #[.string (bs (p_0.Name)), .slice A1 p_0.Cols.length c1, .slice A2 p_0.Idxs.length c2], .agg #[.string (bs (p_1.Name)), .slice A4 p_1.Cols.length c4, .slice A5 p_1.Idxs.length c5]] w fun v w' => v = .bool ((s_l24SameCols p_0 p_1)) ∧ Ex w w' := by
  have hol7 : p_0.Name.length ≤ 1073741824 := o3.1
  have hol8 := o3.2.1.1
  have hol9 := o3.2.2.1
  have hol10 : p_1.Name.length ≤ 1073741824 := o6.1
  have hol11 := o6.2.1.1
  have hol12 := o6.2.2.1
  refine Cal.of (vs := [.agg #[.string (bs (p_0.Name)), .slice A1 p_0.Cols.length c1, .slice A2 p_0.Idxs.length c2], .agg #[.string (bs (p_1.Name)), .slice A4 p_1.Cols.length c4, .slice A5 p_1.Idxs.length c5]]) Try.func92 rfl Try.ntmps92 rfl ?_
  refine CW.seq ?_
  refine CW.region ?_
  refine SeqR.d1 rfl rfl rfl (yl_box (cs := [.string (bs (p_0.Name)), .slice A1 p_0.Cols.length c1, .slice A2 p_0.Idxs.length c2]) rfl rfl rfl ?_)
  intro b13 w14 hs15 hz16 hB17 hE18
  refine SeqR.d1 rfl rfl rfl (yl_box (cs := [.string (bs (p_1.Name)), .slice A4 p_1.Cols.length c4, .slice A5 p_1.Idxs.length c5]) rfl rfl rfl ?_)
  intro b19 w20 hs21 hz22 hB23 hE24
  refine SeqR.d1 rfl rfl rfl (yl_assign rfl rfl ?_)
  refine SeqR.done ?_
  refine tn ?_
  refine CW.seq ?_
  refine CW.seq ?_
  refine CW.region ?_
  refine SeqR.d1 rfl rfl rfl (yl_fieldAddr Try.fd35_0 rfl rfl ?_)
  have q25 := Box.ex hB17 hE24
  refine SeqR.d1 rfl rfl rfl (yl_load1 Try.ty9 rfl rfl ((q25.cell 0).trans rfl) ?_)
  refine SeqR.d1 rfl rfl rfl (yl_fieldAddr Try.fd35_0 rfl rfl ?_)
  refine SeqR.d1 rfl rfl rfl (yl_load1 Try.ty9 rfl rfl ((hB23.cell 0).trans rfl) ?_)
  refine SeqR.d1 rfl rfl rfl (yl_sneq (a := p_0.Name) (b := p_1.Name) rfl rfl rfl ?_)
  refine SeqR.d1 rfl rfl rfl (yl_move rfl rfl ?_)
  refine bcase (p_0.Name == p_1.Name) (fun hb26 => ?_) (fun hb26 => ?_)
  · skip
    refine SeqR.y rfl rfl rfl rfl rfl (not_t hb26) (yl_fieldAddr Try.fd35_1 rfl rfl ?_)
    refine SeqR.y rfl rfl rfl rfl rfl (not_t hb26) (yl_load1 Try.ty22 rfl rfl ((q25.cell 1).trans rfl) ?_)
    refine SeqR.y rfl rfl rfl rfl rfl (not_t hb26) (yl_len Try.un22 rfl rfl ?_)
    refine SeqR.y rfl rfl rfl rfl rfl (not_t hb26) (yl_fieldAddr Try.fd35_1 rfl rfl ?_)
    refine SeqR.y rfl rfl rfl rfl rfl (not_t hb26) (yl_load1 Try.ty22 rfl rfl ((hB23.cell 1).trans rfl) ?_)
    refine SeqR.y rfl rfl rfl rfl rfl (not_t hb26) (yl_len Try.un22 rfl rfl ?_)
    refine SeqR.y rfl rfl rfl rfl rfl (not_t hb26) (yl_neq rfl rfl rfl ?_)
    refine SeqR.d1 rfl rfl rfl (yl_pick_f rfl rfl (not_t hb26) rfl ?_)
    refine SeqR.d1 rfl rfl rfl (yl_move rfl rfl ?_)
    refine bcase (decide ((p_0.Cols.length : Int) = (p_1.Cols.length : Int))) (fun hb27 => ?_) (fun hb27 => ?_)
    · have hb27p := dec_t hb27
      refine SeqR.y rfl rfl rfl rfl rfl (not_t hb27) (yl_fieldAddr Try.fd35_2 rfl rfl ?_)
      refine SeqR.y rfl rfl rfl rfl rfl (not_t hb27) (yl_load1 Try.ty33 rfl rfl ((q25.cell 2).trans rfl) ?_)
      refine SeqR.y rfl rfl rfl rfl rfl (not_t hb27) (yl_len Try.un33 rfl rfl ?_)
      refine SeqR.y rfl rfl rfl rfl rfl (not_t hb27) (yl_fieldAddr Try.fd35_2 rfl rfl ?_)
      refine SeqR.y rfl rfl rfl rfl rfl (not_t hb27) (yl_load1 Try.ty33 rfl rfl ((hB23.cell 2).trans rfl) ?_)
      refine SeqR.y rfl rfl rfl rfl rfl (not_t hb27) (yl_len Try.un33 rfl rfl ?_)
      refine SeqR.y rfl rfl rfl rfl rfl (not_t hb27) (yl_neq rfl rfl rfl ?_)
      refine SeqR.d1 rfl rfl rfl (yl_pick_f rfl rfl (not_t hb27) rfl ?_)
      refine SeqR.done ?_
      refine tn ?_
      refine bcase (decide ((p_0.Idxs.length : Int) = (p_1.Idxs.length : Int))) (fun hb28 => ?_) (fun hb28 => ?_)
      · have hb28p := dec_t hb28
        refine CW.cond_f rfl (not_t hb28) ?_
        refine CW.skip ?_
        refine tn ?_
        refine CW.seq ?_
        refine CW.seq ?_
        refine CW.region ?_
        refine SeqR.d1 rfl rfl rfl (yl_fieldAddr Try.fd35_1 rfl rfl ?_)
        refine SeqR.d1 rfl rfl rfl (yl_load1 Try.ty22 rfl rfl ((q25.cell 1).trans rfl) ?_)
        refine SeqR.d1 rfl rfl rfl (yl_len Try.un22 rfl rfl ?_)
        refine SeqR.d1 rfl rfl rfl (yl_move rfl rfl ?_)
        refine SeqR.done ?_
        refine tn ?_
        refine CW.block ?_
        have q33 := RdS.ex good_Str h1 hE18
        have q34 := RdS.ex good_Str q33 hE24
        have q35 := RdS.ex good_Idx h2 hE18
        have q36 := RdS.ex good_Idx q35 hE24
        have q37 := RdS.ex good_Str h4 hE18
        have q38 := RdS.ex good_Str q37 hE24
        have q39 := RdS.ex good_Idx h5 hE18
        have q40 := RdS.ex good_Idx q39 hE24
        have q41 := Ex.trans (Ex.refl w) hE18
        have q42 := Ex.trans q41 hE24
        refine CW.loop (fun m30 L31 w32 => ∃ (k29 : Nat), m30 = p_0.Cols.length - k29 ∧ k29 ≤ p_0.Cols.length ∧ w20.heap.size ≤ w32.heap.size ∧ lkp L31 2 = some (.pointer (some ⟨b13, 0, none⟩)) ∧ lkp L31 3 = some (.pointer (some ⟨b19, 0, none⟩)) ∧ lkp L31 32 = some (.int .i64 ((p_0.Cols.length : Int))) ∧ lkp L31 33 = some (.int .i64 ((k29 : Int))) ∧ Box w32 b13 35 [.string (bs (p_0.Name)), .slice A1 p_0.Cols.length c1, .slice A2 p_0.Idxs.length c2] ∧ RdS w32 (Iv 0 w.heap.size) (RF e_Str) 1 A1 p_0.Cols.length c1 p_0.Cols ∧ RdS w32 (Iv 0 w.heap.size) (RF e_Idx) 3 A2 p_0.Idxs.length c2 p_0.Idxs ∧ Box w32 b19 35 [.string (bs (p_1.Name)), .slice A4 p_1.Cols.length c4, .slice A5 p_1.Idxs.length c5] ∧ RdS w32 (Iv 0 w.heap.size) (RF e_Str) 1 A4 p_1.Cols.length c4 p_1.Cols ∧ RdS w32 (Iv 0 w.heap.size) (RF e_Idx) 3 A5 p_1.Idxs.length c5 p_1.Idxs ∧ Ex w w32 ∧ loopM (B_s_l24SameCols_0 p_0 p_1) (p_0.Cols.length - k29) k29 () = loopM (B_s_l24SameCols_0 p_0 p_1) (p_0.Cols.length - 0) 0 ()) (p_0.Cols.length - 0) ?_ ?_
        · exact ⟨0, rfl, (by omega), Nat.le_refl _, rfl, rfl, rfl, rfl, q25, q34, q36, hB23, q38, q40, q42, rfl⟩
        · rintro m43 L44 w45 ⟨k29, rfl, hk46, hsz48, hl49, hl50, hl51, hl52, hf53, hf54, hf55, hf56, hf57, hf58, hf59, hI47⟩
          refine CW.sub (Sub.cons hl49 (Sub.cons hl50 (Sub.cons hl51 (Sub.cons hl52 (Sub.nil _))))) ?_
          have hf53z := Box.lt hf53
          have hf56z := Box.lt hf56
          have hf59z := Ex.size hf59
          have hbg60 := RdS.big hf54
          rcases Nat.lt_or_ge k29 p_0.Cols.length with hlt61 | hlt61
          · skip
            refine CW.seq ?_
            refine CW.region ?_
            refine SeqR.d1 rfl rfl rfl (yl_lss rfl rfl rfl ?_)
            refine SeqR.done ?_
            refine tn ?_
            refine CW.seq ?_
            refine CW.cond_t rfl (lt_t hlt61) ?_
            refine CW.skip ?_
            refine tn ?_
            refine CW.seq ?_
            refine CW.block ?_
            refine CW.seq ?_
            refine CW.region ?_
            refine SeqR.d1 rfl rfl rfl (yl_move rfl rfl ?_)
            refine SeqR.d1 rfl rfl rfl (yl_assign rfl rfl ?_)
            refine SeqR.done ?_
            refine tn ?_
            refine CW.seq ?_
            obtain ⟨eb62, eo62, ec62, eA62, eS62, ebl62, el62, eR62, eC62⟩ := RdS.atD hf54 d_Str (i := k29) (by first | omega | assumption)
            obtain rfl := eR62
            have eC62 : Cells w45 eb62 (eo62 + k29 * 1) [.string (bs ((p_0.Cols.getD k29 d_Str)))] := eC62
            obtain ⟨eb63, eo63, ec63, eA63, eS63, ebl63, el63, eR63, eC63⟩ := RdS.atD hf57 d_Str (i := k29) (by first | omega | assumption)
            obtain rfl := eR63
            have eC63 : Cells w45 eb63 (eo63 + k29 * 1) [.string (bs ((p_1.Cols.getD k29 d_Str)))] := eC63
            refine CW.drawsI 11 (vgetI [DetI (.pointer (some ⟨b13, 0 + 1, none⟩)), DetI (.slice A1 p_0.Cols.length c1), DetI (.int .i64 ((k29 : Int))), DetI (.pointer (some ⟨eb62, eo62 + k29 * 1, none⟩)), DetI (.string (bs ((p_0.Cols.getD k29 d_Str)))), DetI (.pointer (some ⟨b19, 0 + 1, none⟩)), DetI (.slice A4 p_1.Cols.length c4), DetI (.int .i64 ((k29 : Int))), DetI (.pointer (some ⟨eb63, eo63 + k29 * 1, none⟩)), DetI (.string (bs ((p_1.Cols.getD k29 d_Str)))), DetI (.bool (!((p_0.Cols.getD k29 d_Str) == (p_1.Cols.getD k29 d_Str))))]) Try.follows rfl rfl rfl rfl rfl rfl (vgetI_stable ⟨StableI.det _, StableI.det _, StableI.det _, StableI.det _, StableI.det _, StableI.det _, StableI.det _, StableI.det _, StableI.det _, StableI.det _, StableI.det _, trivial⟩) ⟨?_, ?_, ?_, ?_, ?_, ?_, ?_, ?_, ?_, ?_, ?_, trivial⟩ ?_
            · intro L64 w65 hi66
              have hE67 := hi66.ex
              have hE67z := Ex.size hE67
              have hx68 := hi66.old 2 _ rfl rfl
              exact OpR.op' rfl (Yl.sameI (yl_fieldAddr Try.fd35_1 rfl hx68 ⟨fun _ _ => rfl, rfl⟩))
            · intro L69 w70 hi71
              have hE72 := hi71.ex
              have hE72z := Ex.size hE72
              obtain ⟨_, _, _, hx73, -, -, -, rfl⟩ := hi71.dep 0 36 rfl rfl
              have q74 := Box.ex hf53 hE72
              exact OpR.op' rfl (Yl.sameI (yl_load1 Try.ty22 rfl hx73 ((q74.cell 1).trans rfl) ⟨fun _ _ => rfl, rfl⟩))
            · intro L75 w76 hi77
              have hE78 := hi77.ex
              have hE78z := Ex.size hE78
              have hx79 := hi77.old 5 _ rfl rfl
              exact OpR.op' rfl (Yl.sameI (yl_move rfl hx79 ⟨fun _ _ => rfl, rfl⟩))
            · intro L80 w81 hi82
              have hE83 := hi82.ex
              have hE83z := Ex.size hE83
              obtain ⟨_, _, _, hx84, -, -, -, rfl⟩ := hi82.dep 1 37 rfl rfl
              obtain ⟨_, _, _, hx85, -, -, -, rfl⟩ := hi82.dep 2 38 rfl rfl
              exact OpR.op' rfl (Yl.sameI (yl_indexAddrN Try.un22 Try.ty9 rfl hx84 hx85 eA62 (by first | omega | assumption | (simp only [IntKind.wrap_i64] at *; omega)) ⟨fun _ _ => rfl, rfl⟩))
            · intro L86 w87 hi88
              have hE89 := hi88.ex
              have hE89z := Ex.size hE89
              obtain ⟨_, _, _, hx90, -, -, -, rfl⟩ := hi88.dep 3 39 rfl rfl
              have q91 := Cells.ex eC62 hE89
              exact OpR.op' rfl (Yl.sameI (yl_load1 Try.ty9 rfl hx90 (q91 0 _ rfl) ⟨fun _ _ => rfl, rfl⟩))
            · intro L92 w93 hi94
              have hE95 := hi94.ex
              have hE95z := Ex.size hE95
              have hx96 := hi94.old 3 _ rfl rfl
              exact OpR.op' rfl (Yl.sameI (yl_fieldAddr Try.fd35_1 rfl hx96 ⟨fun _ _ => rfl, rfl⟩))
            · intro L97 w98 hi99
              have hE100 := hi99.ex
              have hE100z := Ex.size hE100
              obtain ⟨_, _, _, hx101, -, -, -, rfl⟩ := hi99.dep 5 41 rfl rfl
              have q102 := Box.ex hf56 hE100
              exact OpR.op' rfl (Yl.sameI (yl_load1 Try.ty22 rfl hx101 ((q102.cell 1).trans rfl) ⟨fun _ _ => rfl, rfl⟩))
            · intro L103 w104 hi105
              have hE106 := hi105.ex
              have hE106z := Ex.size hE106
              have hx107 := hi105.old 5 _ rfl rfl
              exact OpR.op' rfl (Yl.sameI (yl_move rfl hx107 ⟨fun _ _ => rfl, rfl⟩))
            · intro L108 w109 hi110
              have hE111 := hi110.ex
              have hE111z := Ex.size hE111
              obtain ⟨_, _, _, hx112, -, -, -, rfl⟩ := hi110.dep 6 42 rfl rfl
              obtain ⟨_, _, _, hx113, -, -, -, rfl⟩ := hi110.dep 7 43 rfl rfl
              exact OpR.op' rfl (Yl.sameI (yl_indexAddrN Try.un22 Try.ty9 rfl hx112 hx113 eA63 (by first | omega | assumption | (simp only [IntKind.wrap_i64] at *; omega)) ⟨fun _ _ => rfl, rfl⟩))
            · intro L114 w115 hi116
              have hE117 := hi116.ex
              have hE117z := Ex.size hE117
              obtain ⟨_, _, _, hx118, -, -, -, rfl⟩ := hi116.dep 8 44 rfl rfl
              have q119 := Cells.ex eC63 hE117
              exact OpR.op' rfl (Yl.sameI (yl_load1 Try.ty9 rfl hx118 (q119 0 _ rfl) ⟨fun _ _ => rfl, rfl⟩))
            · intro L120 w121 hi122
              have hE123 := hi122.ex
              have hE123z := Ex.size hE123
              obtain ⟨_, _, _, hx124, -, -, -, rfl⟩ := hi122.dep 4 40 rfl rfl
              obtain ⟨_, _, _, hx125, -, -, -, rfl⟩ := hi122.dep 9 45 rfl rfl
              exact OpR.op' rfl (Yl.sameI (yl_sneq (a := (p_0.Cols.getD k29 d_Str)) (b := (p_1.Cols.getD k29 d_Str)) rfl hx124 hx125 ⟨fun _ _ => rfl, rfl⟩))
            · intro fl129 fh130 L126 w127 hp128
              have hE131 := hp128.ex
              have hE131z := Ex.size hE131
              have hx132 := hp128.old 2 _ rfl rfl
              have hx133 := hp128.old 3 _ rfl rfl
              have hx134 := hp128.old 32 _ rfl rfl
              have hx135 := hp128.old 33 _ rfl rfl
              obtain ⟨_, hx136, rfl⟩ := hp128.new 10 46 rfl rfl
              refine SeqR.done ?_
              refine tn ?_
              refine CW.sub (Sub.cons (d := 2) hx132 (Sub.cons (d := 3) hx133 (Sub.cons (d := 32) hx134 (Sub.cons (d := 33) hx135 (Sub.cons (d := 46) hx136 (Sub.nil _)))))) ?_
              refine bcase ((p_0.Cols.getD k29 d_Str) == (p_1.Cols.getD k29 d_Str)) (fun hb137 => ?_) (fun hb137 => ?_)
              · skip
                refine CW.cond_f rfl (not_t hb137) ?_
                refine CW.skip ?_
                refine bn ?_
                refine tn ?_
                refine CW.region ?_
                refine SeqR.d1 rfl rfl rfl (yl_inc rfl rfl rfl (by omega) ?_)
                refine SeqR.d1 rfl rfl rfl (yl_move rfl rfl ?_)
                refine SeqR.done ?_
                refine tn ?_
                have hB138 : B_s_l24SameCols_0 p_0 p_1 k29 () = .cont () := by simp only [B_s_l24SameCols_0, hb26, hb27, hb28, hb137, cond_true, cond_false, loopE_done, loopE_ret]
                have q139 := Box.ex hf53 hE131
                have q140 := RdS.ex good_Str hf54 hE131
                have q141 := RdS.ex good_Idx hf55 hE131
                have q142 := Box.ex hf56 hE131
                have q143 := RdS.ex good_Str hf57 hE131
                have q144 := RdS.ex good_Idx hf58 hE131
                have q145 := Ex.trans hf59 hE131
                exact ⟨p_0.Cols.length - (k29 + 1), by omega, k29 + 1, rfl, hlt61, (by omega), rfl, rfl, rfl, rfl, q139, q140, q141, q142, q143, q144, q145, (loopM.cont hlt61 hB138).symm.trans hI47⟩
              · skip
                refine CW.cond_t rfl (not_f hb137) ?_
                refine CW.seq ?_
                refine CW.region ?_
                refine SeqR.d1 rfl rfl rfl (yl_assign rfl rfl ?_)
                refine SeqR.done ?_
                refine tn ?_
                refine CW.ret ?_
                refine br ?_
                refine tr ?_
                refine tr ?_
                have hB147 : B_s_l24SameCols_0 p_0 p_1 k29 () = .ret false := by simp only [B_s_l24SameCols_0, hb26, hb27, hb28, hb137, cond_true, cond_false, loopE_done, loopE_ret]
                have hL146 : loopM (B_s_l24SameCols_0 p_0 p_1) (p_0.Cols.length - 0) 0 () = .ret false := hI47.symm.trans (loopM.ret hlt61 hB147)
                refine br ?_
                refine tr ?_
                refine rr rfl (.cons rfl .nil) ?_
                have hM148 : (s_l24SameCols p_0 p_1) = (false) := by simp only [s_l24SameCols, hb26, hb27, hb28, hb137, hL146, cond_true, cond_false, loopE_done, loopE_ret]
                rw [hM148]
                have q149 := Ex.trans hf59 hE131
                exact ⟨rfl, q149⟩
          · skip
            refine CW.seq ?_
            refine CW.region ?_
            refine SeqR.d1 rfl rfl rfl (yl_lss rfl rfl rfl ?_)
            refine SeqR.done ?_
            refine tn ?_
            refine CW.seq ?_
            refine CW.cond_f rfl (lt_f hlt61) ?_
            refine CW.exit ?_
            refine tx ?_
            refine tx ?_
            have hL150 : loopM (B_s_l24SameCols_0 p_0 p_1) (p_0.Cols.length - 0) 0 () = .done () := hI47.symm.trans (loopM.stop hlt61)
            refine bx ?_
            refine tn ?_
            refine CW.seq ?_
            refine CW.seq ?_
            refine CW.region ?_
            refine SeqR.d1 rfl rfl rfl (yl_fieldAddr Try.fd35_2 rfl rfl ?_)
            refine SeqR.d1 rfl rfl rfl (yl_load1 Try.ty33 rfl rfl ((hf53.cell 2).trans rfl) ?_)
            refine SeqR.d1 rfl rfl rfl (yl_len Try.un33 rfl rfl ?_)
            refine SeqR.d1 rfl rfl rfl (yl_move rfl rfl ?_)
            refine SeqR.done ?_
            refine tn ?_
            refine CW.block ?_
            refine CW.loop (fun m152 L153 w154 => ∃ (k151 : Nat), m152 = p_0.Idxs.length - k151 ∧ k151 ≤ p_0.Idxs.length ∧ w45.heap.size ≤ w154.heap.size ∧ lkp L153 2 = some (.pointer (some ⟨b13, 0, none⟩)) ∧ lkp L153 3 = some (.pointer (some ⟨b19, 0, none⟩)) ∧ lkp L153 50 = some (.int .i64 ((p_0.Idxs.length : Int))) ∧ lkp L153 51 = some (.int .i64 ((k151 : Int))) ∧ Box w154 b13 35 [.string (bs (p_0.Name)), .slice A1 p_0.Cols.length c1, .slice A2 p_0.Idxs.length c2] ∧ RdS w154 (Iv 0 w.heap.size) (RF e_Str) 1 A1 p_0.Cols.length c1 p_0.Cols ∧ RdS w154 (Iv 0 w.heap.size) (RF e_Idx) 3 A2 p_0.Idxs.length c2 p_0.Idxs ∧ Box w154 b19 35 [.string (bs (p_1.Name)), .slice A4 p_1.Cols.length c4, .slice A5 p_1.Idxs.length c5] ∧ RdS w154 (Iv 0 w.heap.size) (RF e_Str) 1 A4 p_1.Cols.length c4 p_1.Cols ∧ RdS w154 (Iv 0 w.heap.size) (RF e_Idx) 3 A5 p_1.Idxs.length c5 p_1.Idxs ∧ Ex w w154 ∧ loopM (B_s_l24SameCols_1 p_0 p_1) (p_0.Idxs.length - k151) k151 () = loopM (B_s_l24SameCols_1 p_0 p_1) (p_0.Idxs.length - 0) 0 ()) (p_0.Idxs.length - 0) ?_ ?_
            · exact ⟨0, rfl, (by omega), Nat.le_refl _, rfl, rfl, rfl, rfl, hf53, hf54, hf55, hf56, hf57, hf58, hf59, rfl⟩
            · rintro m155 L156 w157 ⟨k151, rfl, hk158, hsz160, hl161, hl162, hl163, hl164, hf165, hf166, hf167, hf168, hf169, hf170, hf171, hI159⟩
              refine CW.sub (Sub.cons hl161 (Sub.cons hl162 (Sub.cons hl163 (Sub.cons hl164 (Sub.nil _))))) ?_
              have hf165z := Box.lt hf165
              have hf168z := Box.lt hf168
              have hf171z := Ex.size hf171
              have hbg172 := RdS.big hf167
              rcases Nat.lt_or_ge k151 p_0.Idxs.length with hlt173 | hlt173
              · skip
                refine CW.seq ?_
                refine CW.region ?_
                refine SeqR.d1 rfl rfl rfl (yl_lss rfl rfl rfl ?_)
                refine SeqR.done ?_
                refine tn ?_
                refine CW.seq ?_
                refine CW.cond_t rfl (lt_t hlt173) ?_
                refine CW.skip ?_
                refine tn ?_
                refine CW.seq ?_
                refine CW.block ?_
                refine CW.seq ?_
                refine CW.region ?_
                refine SeqR.d1 rfl rfl rfl (yl_move rfl rfl ?_)
                refine SeqR.d1 rfl rfl rfl (yl_assign rfl rfl ?_)
                refine SeqR.done ?_
                refine tn ?_
                refine CW.seq ?_
                obtain ⟨eb174, eo174, ec174, eA174, eS174, ebl174, el174, eR174, eC174⟩ := RdS.atD hf167 d_Idx (i := k151) (by first | omega | assumption)
                obtain rfl := eR174
                have eC174 : Cells w157 eb174 (eo174 + k151 * 3) [.string (bs ((p_0.Idxs.getD k151 d_Idx).Name)), .int .i64 ((p_0.Idxs.getD k151 d_Idx).Col), .int .i64 ((p_0.Idxs.getD k151 d_Idx).Stage)] := eC174
                obtain ⟨eb175, eo175, ec175, eA175, eS175, ebl175, el175, eR175, eC175⟩ := RdS.atD hf170 d_Idx (i := k151) (by first | omega | assumption)
                obtain rfl := eR175
                have eC175 : Cells w157 eb175 (eo175 + k151 * 3) [.string (bs ((p_1.Idxs.getD k151 d_Idx).Name)), .int .i64 ((p_1.Idxs.getD k151 d_Idx).Col), .int .i64 ((p_1.Idxs.getD k151 d_Idx).Stage)] := eC175
                refine bcase (((p_0.Idxs.getD k151 d_Idx).Name) == ((p_1.Idxs.getD k151 d_Idx).Name)) (fun hb176 => ?_) (fun hb176 => ?_)
                · skip
                  obtain ⟨eb177, eo177, ec177, eA177, eS177, ebl177, el177, eR177, eC177⟩ := RdS.atD hf167 d_Idx (i := k151) (by first | omega | assumption)
                  obtain rfl := eR177
                  have eC177 : Cells w157 eb177 (eo177 + k151 * 3) [.string (bs ((p_0.Idxs.getD k151 d_Idx).Name)), .int .i64 ((p_0.Idxs.getD k151 d_Idx).Col), .int .i64 ((p_0.Idxs.getD k151 d_Idx).Stage)] := eC177
                  obtain ⟨eb178, eo178, ec178, eA178, eS178, ebl178, el178, eR178, eC178⟩ := RdS.atD hf170 d_Idx (i := k151) (by first | omega | assumption)
                  obtain rfl := eR178
                  have eC178 : Cells w157 eb178 (eo178 + k151 * 3) [.string (bs ((p_1.Idxs.getD k151 d_Idx).Name)), .int .i64 ((p_1.Idxs.getD k151 d_Idx).Col), .int .i64 ((p_1.Idxs.getD k151 d_Idx).Stage)] := eC178
                  refine CW.drawsI 28 (vgetI [DetI (.pointer (some ⟨b13, 0 + 2, none⟩)), DetI (.slice A2 p_0.Idxs.length c2), DetI (.int .i64 ((k151 : Int))), DetI (.pointer (some ⟨eb177, eo177 + k151 * 3, none⟩)), DetI (.pointer (some ⟨eb177, eo177 + k151 * 3 + 0, none⟩)), DetI (.string (bs ((p_0.Idxs.getD k151 d_Idx).Name))), DetI (.pointer (some ⟨b19, 0 + 2, none⟩)), DetI (.slice A5 p_1.Idxs.length c5), DetI (.int .i64 ((k151 : Int))), DetI (.pointer (some ⟨eb178, eo178 + k151 * 3, none⟩)), DetI (.pointer (some ⟨eb178, eo178 + k151 * 3 + 0, none⟩)), DetI (.string (bs ((p_1.Idxs.getD k151 d_Idx).Name))), DetI (.bool (!(((p_0.Idxs.getD k151 d_Idx).Name) == ((p_1.Idxs.getD k151 d_Idx).Name)))), DetI (.bool (!(((p_0.Idxs.getD k151 d_Idx).Name) == ((p_1.Idxs.getD k151 d_Idx).Name)))), DetI (.pointer (some ⟨b13, 0 + 2, none⟩)), DetI (.slice A2 p_0.Idxs.length c2), DetI (.int .i64 ((k151 : Int))), DetI (.pointer (some ⟨eb177, eo177 + k151 * 3, none⟩)), DetI (.pointer (some ⟨eb177, eo177 + k151 * 3 + 1, none⟩)), DetI (.int .i64 ((p_0.Idxs.getD k151 d_Idx).Col)), DetI (.pointer (some ⟨b19, 0 + 2, none⟩)), DetI (.slice A5 p_1.Idxs.length c5), DetI (.int .i64 ((k151 : Int))), DetI (.pointer (some ⟨eb178, eo178 + k151 * 3, none⟩)), DetI (.pointer (some ⟨eb178, eo178 + k151 * 3 + 1, none⟩)), DetI (.int .i64 ((p_1.Idxs.getD k151 d_Idx).Col)), DetI (.bool (!(decide (((p_0.Idxs.getD k151 d_Idx).Col) = ((p_1.Idxs.getD k151 d_Idx).Col))))), DetI (.bool (!(decide (((p_0.Idxs.getD k151 d_Idx).Col) = ((p_1.Idxs.getD k151 d_Idx).Col)))))]) Try.follows rfl rfl rfl rfl rfl rfl (vgetI_stable ⟨StableI.det _, StableI.det _, StableI.det _, StableI.det _, StableI.det _, StableI.det _, StableI.det _, StableI.det _, StableI.det _, StableI.det _, StableI.det _, StableI.det _, StableI.det _, StableI.det _, StableI.det _, StableI.det _, StableI.det _, StableI.det _, StableI.det _, StableI.det _, StableI.det _, StableI.det _, StableI.det _, StableI.det _, StableI.det _, StableI.det _, StableI.det _, StableI.det _, trivial⟩) ⟨?_, ?_, ?_, ?_, ?_, ?_, ?_, ?_, ?_, ?_, ?_, ?_, ?_, ?_, ?_, ?_, ?_, ?_, ?_, ?_, ?_, ?_, ?_, ?_, ?_, ?_, ?_, ?_, trivial⟩ ?_
                  · intro L179 w180 hi181
                    have hE182 := hi181.ex
                    have hE182z := Ex.size hE182
                    have hx183 := hi181.old 2 _ rfl rfl
                    exact OpR.op' rfl (Yl.sameI (yl_fieldAddr Try.fd35_2 rfl hx183 ⟨fun _ _ => rfl, rfl⟩))
                  · intro L184 w185 hi186
                    have hE187 := hi186.ex
                    have hE187z := Ex.size hE187
                    obtain ⟨_, _, _, hx188, -, -, -, rfl⟩ := hi186.dep 0 54 rfl rfl
                    have q189 := Box.ex hf165 hE187
                    exact OpR.op' rfl (Yl.sameI (yl_load1 Try.ty33 rfl hx188 ((q189.cell 2).trans rfl) ⟨fun _ _ => rfl, rfl⟩))
                  · intro L190 w191 hi192
                    have hE193 := hi192.ex
                    have hE193z := Ex.size hE193
                    have hx194 := hi192.old 6 _ rfl rfl
                    exact OpR.op' rfl (Yl.sameI (yl_move rfl hx194 ⟨fun _ _ => rfl, rfl⟩))
                  · intro L195 w196 hi197
                    have hE198 := hi197.ex
                    have hE198z := Ex.size hE198
                    obtain ⟨_, _, _, hx199, -, -, -, rfl⟩ := hi197.dep 1 55 rfl rfl
                    obtain ⟨_, _, _, hx200, -, -, -, rfl⟩ := hi197.dep 2 56 rfl rfl
                    exact OpR.op' rfl (Yl.sameI (yl_indexAddrN Try.un33 Try.ty132 rfl hx199 hx200 eA177 (by first | omega | assumption | (simp only [IntKind.wrap_i64] at *; omega)) ⟨fun _ _ => rfl, rfl⟩))
                  · intro L201 w202 hi203
                    have hE204 := hi203.ex
                    have hE204z := Ex.size hE204
                    obtain ⟨_, _, _, hx205, -, -, -, rfl⟩ := hi203.dep 3 57 rfl rfl
                    exact OpR.op' rfl (Yl.sameI (yl_fieldAddr Try.fd132_0 rfl hx205 ⟨fun _ _ => rfl, rfl⟩))
                  · intro L206 w207 hi208
                    have hE209 := hi208.ex
                    have hE209z := Ex.size hE209
                    obtain ⟨_, _, _, hx210, -, -, -, rfl⟩ := hi208.dep 4 58 rfl rfl
                    have q211 := Cells.ex eC177 hE209
                    exact OpR.op' rfl (Yl.sameI (yl_load1 Try.ty9 rfl hx210 (q211 0 _ rfl) ⟨fun _ _ => rfl, rfl⟩))
                  · intro L212 w213 hi214
                    have hE215 := hi214.ex
                    have hE215z := Ex.size hE215
                    have hx216 := hi214.old 3 _ rfl rfl
                    exact OpR.op' rfl (Yl.sameI (yl_fieldAddr Try.fd35_2 rfl hx216 ⟨fun _ _ => rfl, rfl⟩))
                  · intro L217 w218 hi219
                    have hE220 := hi219.ex
                    have hE220z := Ex.size hE220
                    obtain ⟨_, _, _, hx221, -, -, -, rfl⟩ := hi219.dep 6 60 rfl rfl
                    have q222 := Box.ex hf168 hE220
                    exact OpR.op' rfl (Yl.sameI (yl_load1 Try.ty33 rfl hx221 ((q222.cell 2).trans rfl) ⟨fun _ _ => rfl, rfl⟩))
                  · intro L223 w224 hi225
                    have hE226 := hi225.ex
                    have hE226z := Ex.size hE226
                    have hx227 := hi225.old 6 _ rfl rfl
                    exact OpR.op' rfl (Yl.sameI (yl_move rfl hx227 ⟨fun _ _ => rfl, rfl⟩))
                  · intro L228 w229 hi230
                    have hE231 := hi230.ex
                    have hE231z := Ex.size hE231
                    obtain ⟨_, _, _, hx232, -, -, -, rfl⟩ := hi230.dep 7 61 rfl rfl
                    obtain ⟨_, _, _, hx233, -, -, -, rfl⟩ := hi230.dep 8 62 rfl rfl
                    exact OpR.op' rfl (Yl.sameI (yl_indexAddrN Try.un33 Try.ty132 rfl hx232 hx233 eA178 (by first | omega | assumption | (simp only [IntKind.wrap_i64] at *; omega)) ⟨fun _ _ => rfl, rfl⟩))
                  · intro L234 w235 hi236
                    have hE237 := hi236.ex
                    have hE237z := Ex.size hE237
                    obtain ⟨_, _, _, hx238, -, -, -, rfl⟩ := hi236.dep 9 63 rfl rfl
                    exact OpR.op' rfl (Yl.sameI (yl_fieldAddr Try.fd132_0 rfl hx238 ⟨fun _ _ => rfl, rfl⟩))
                  · intro L239 w240 hi241
                    have hE242 := hi241.ex
                    have hE242z := Ex.size hE242
                    obtain ⟨_, _, _, hx243, -, -, -, rfl⟩ := hi241.dep 10 64 rfl rfl
                    have q244 := Cells.ex eC178 hE242
                    exact OpR.op' rfl (Yl.sameI (yl_load1 Try.ty9 rfl hx243 (q244 0 _ rfl) ⟨fun _ _ => rfl, rfl⟩))
                  · intro L245 w246 hi247
                    have hE248 := hi247.ex
                    have hE248z := Ex.size hE248
                    obtain ⟨_, _, _, hx249, -, -, -, rfl⟩ := hi247.dep 5 59 rfl rfl
                    obtain ⟨_, _, _, hx250, -, -, -, rfl⟩ := hi247.dep 11 65 rfl rfl
                    exact OpR.op' rfl (Yl.sameI (yl_sneq (a := ((p_0.Idxs.getD k151 d_Idx).Name)) (b := ((p_1.Idxs.getD k151 d_Idx).Name)) rfl hx249 hx250 ⟨fun _ _ => rfl, rfl⟩))
                  · intro L251 w252 hi253
                    have hE254 := hi253.ex
                    have hE254z := Ex.size hE254
                    obtain ⟨_, _, _, hx255, -, -, -, rfl⟩ := hi253.dep 12 66 rfl rfl
                    exact OpR.op' rfl (Yl.sameI (yl_move rfl hx255 ⟨fun _ _ => rfl, rfl⟩))
                  · intro L256 w257 hi258
                    have hE259 := hi258.ex
                    have hE259z := Ex.size hE259
                    obtain ⟨_, _, _, hx260, -, -, -, rfl⟩ := hi258.dep 13 67 rfl rfl
                    have hx261 := hi258.old 2 _ rfl rfl
                    exact OpR.want rfl rfl hx260 (not_t hb176) (Yl.sameI (yl_fieldAddr Try.fd35_2 rfl hx261 ⟨fun _ _ => rfl, rfl⟩))
                  · intro L262 w263 hi264
                    have hE265 := hi264.ex
                    have hE265z := Ex.size hE265
                    obtain ⟨_, _, _, hx266, -, -, -, rfl⟩ := hi264.dep 13 67 rfl rfl
                    obtain ⟨_, _, _, hx267, -, -, -, rfl⟩ := hi264.dep 14 68 rfl rfl
                    have q268 := Box.ex hf165 hE265
                    exact OpR.want rfl rfl hx266 (not_t hb176) (Yl.sameI (yl_load1 Try.ty33 rfl hx267 ((q268.cell 2).trans rfl) ⟨fun _ _ => rfl, rfl⟩))
                  · intro L269 w270 hi271
                    have hE272 := hi271.ex
                    have hE272z := Ex.size hE272
                    obtain ⟨_, _, _, hx273, -, -, -, rfl⟩ := hi271.dep 13 67 rfl rfl
                    have hx274 := hi271.old 6 _ rfl rfl
                    exact OpR.want rfl rfl hx273 (not_t hb176) (Yl.sameI (yl_move rfl hx274 ⟨fun _ _ => rfl, rfl⟩))
                  · intro L275 w276 hi277
                    have hE278 := hi277.ex
                    have hE278z := Ex.size hE278
                    obtain ⟨_, _, _, hx279, -, -, -, rfl⟩ := hi277.dep 13 67 rfl rfl
                    obtain ⟨_, _, _, hx280, -, -, -, rfl⟩ := hi277.dep 15 69 rfl rfl
                    obtain ⟨_, _, _, hx281, -, -, -, rfl⟩ := hi277.dep 16 70 rfl rfl
                    exact OpR.want rfl rfl hx279 (not_t hb176) (Yl.sameI (yl_indexAddrN Try.un33 Try.ty132 rfl hx280 hx281 eA177 (by first | omega | assumption | (simp only [IntKind.wrap_i64] at *; omega)) ⟨fun _ _ => rfl, rfl⟩))
                  · intro L282 w283 hi284
                    have hE285 := hi284.ex
                    have hE285z := Ex.size hE285
                    obtain ⟨_, _, _, hx286, -, -, -, rfl⟩ := hi284.dep 13 67 rfl rfl
                    obtain ⟨_, _, _, hx287, -, -, -, rfl⟩ := hi284.dep 17 71 rfl rfl
                    exact OpR.want rfl rfl hx286 (not_t hb176) (Yl.sameI (yl_fieldAddr Try.fd132_1 rfl hx287 ⟨fun _ _ => rfl, rfl⟩))
                  · intro L288 w289 hi290
                    have hE291 := hi290.ex
                    have hE291z := Ex.size hE291
                    obtain ⟨_, _, _, hx292, -, -, -, rfl⟩ := hi290.dep 13 67 rfl rfl
                    obtain ⟨_, _, _, hx293, -, -, -, rfl⟩ := hi290.dep 18 72 rfl rfl
                    have q294 := Cells.ex eC177 hE291
                    exact OpR.want rfl rfl hx292 (not_t hb176) (Yl.sameI (yl_load1 Try.ty3 rfl hx293 (q294 1 _ rfl) ⟨fun _ _ => rfl, rfl⟩))
                  · intro L295 w296 hi297
                    have hE298 := hi297.ex
                    have hE298z := Ex.size hE298
                    obtain ⟨_, _, _, hx299, -, -, -, rfl⟩ := hi297.dep 13 67 rfl rfl
                    have hx300 := hi297.old 3 _ rfl rfl
                    exact OpR.want rfl rfl hx299 (not_t hb176) (Yl.sameI (yl_fieldAddr Try.fd35_2 rfl hx300 ⟨fun _ _ => rfl, rfl⟩))
                  · intro L301 w302 hi303
                    have hE304 := hi303.ex
                    have hE304z := Ex.size hE304
                    obtain ⟨_, _, _, hx305, -, -, -, rfl⟩ := hi303.dep 13 67 rfl rfl
                    obtain ⟨_, _, _, hx306, -, -, -, rfl⟩ := hi303.dep 20 74 rfl rfl
                    have q307 := Box.ex hf168 hE304
                    exact OpR.want rfl rfl hx305 (not_t hb176) (Yl.sameI (yl_load1 Try.ty33 rfl hx306 ((q307.cell 2).trans rfl) ⟨fun _ _ => rfl, rfl⟩))
                  · intro L308 w309 hi310
                    have hE311 := hi310.ex
                    have hE311z := Ex.size hE311
                    obtain ⟨_, _, _, hx312, -, -, -, rfl⟩ := hi310.dep 13 67 rfl rfl
                    have hx313 := hi310.old 6 _ rfl rfl
                    exact OpR.want rfl rfl hx312 (not_t hb176) (Yl.sameI (yl_move rfl hx313 ⟨fun _ _ => rfl, rfl⟩))
                  · intro L314 w315 hi316
                    have hE317 := hi316.ex
                    have hE317z := Ex.size hE317
                    obtain ⟨_, _, _, hx318, -, -, -, rfl⟩ := hi316.dep 13 67 rfl rfl
                    obtain ⟨_, _, _, hx319, -, -, -, rfl⟩ := hi316.dep 21 75 rfl rfl
                    obtain ⟨_, _, _, hx320, -, -, -, rfl⟩ := hi316.dep 22 76 rfl rfl
                    exact OpR.want rfl rfl hx318 (not_t hb176) (Yl.sameI (yl_indexAddrN Try.un33 Try.ty132 rfl hx319 hx320 eA178 (by first | omega | assumption | (simp only [IntKind.wrap_i64] at *; omega)) ⟨fun _ _ => rfl, rfl⟩))
                  · intro L321 w322 hi323
                    have hE324 := hi323.ex
                    have hE324z := Ex.size hE324
                    obtain ⟨_, _, _, hx325, -, -, -, rfl⟩ := hi323.dep 13 67 rfl rfl
                    obtain ⟨_, _, _, hx326, -, -, -, rfl⟩ := hi323.dep 23 77 rfl rfl
                    exact OpR.want rfl rfl hx325 (not_t hb176) (Yl.sameI (yl_fieldAddr Try.fd132_1 rfl hx326 ⟨fun _ _ => rfl, rfl⟩))
                  · intro L327 w328 hi329
                    have hE330 := hi329.ex
                    have hE330z := Ex.size hE330
                    obtain ⟨_, _, _, hx331, -, -, -, rfl⟩ := hi329.dep 13 67 rfl rfl
                    obtain ⟨_, _, _, hx332, -, -, -, rfl⟩ := hi329.dep 24 78 rfl rfl
                    have q333 := Cells.ex eC178 hE330
                    exact OpR.want rfl rfl hx331 (not_t hb176) (Yl.sameI (yl_load1 Try.ty3 rfl hx332 (q333 1 _ rfl) ⟨fun _ _ => rfl, rfl⟩))
                  · intro L334 w335 hi336
                    have hE337 := hi336.ex
                    have hE337z := Ex.size hE337
                    obtain ⟨_, _, _, hx338, -, -, -, rfl⟩ := hi336.dep 13 67 rfl rfl
                    obtain ⟨_, _, _, hx339, -, -, -, rfl⟩ := hi336.dep 19 73 rfl rfl
                    obtain ⟨_, _, _, hx340, -, -, -, rfl⟩ := hi336.dep 25 79 rfl rfl
                    exact OpR.want rfl rfl hx338 (not_t hb176) (Yl.sameI (yl_neq rfl hx339 hx340 ⟨fun _ _ => rfl, rfl⟩))
                  · intro L341 w342 hi343
                    have hE344 := hi343.ex
                    have hE344z := Ex.size hE344
                    obtain ⟨_, _, _, hx345, -, -, -, rfl⟩ := hi343.dep 26 80 rfl rfl
                    obtain ⟨_, _, _, hx346, -, -, -, rfl⟩ := hi343.dep 13 67 rfl rfl
                    exact OpR.op' rfl (Yl.sameI (yl_pick_f rfl hx346 (not_t hb176) hx345 ⟨fun _ _ => rfl, rfl⟩))
                  · intro fl350 fh351 L347 w348 hp349
                    have hE352 := hp349.ex
                    have hE352z := Ex.size hE352
                    have hx353 := hp349.old 2 _ rfl rfl
                    have hx354 := hp349.old 3 _ rfl rfl
                    have hx355 := hp349.old 50 _ rfl rfl
                    have hx356 := hp349.old 51 _ rfl rfl
                    obtain ⟨_, hx357, rfl⟩ := hp349.new 14 68 rfl rfl
                    obtain ⟨_, hx358, rfl⟩ := hp349.new 15 69 rfl rfl
                    obtain ⟨_, hx359, rfl⟩ := hp349.new 16 70 rfl rfl
                    obtain ⟨_, hx360, rfl⟩ := hp349.new 17 71 rfl rfl
                    obtain ⟨_, hx361, rfl⟩ := hp349.new 18 72 rfl rfl
                    obtain ⟨_, hx362, rfl⟩ := hp349.new 19 73 rfl rfl
                    obtain ⟨_, hx363, rfl⟩ := hp349.new 20 74 rfl rfl
                    obtain ⟨_, hx364, rfl⟩ := hp349.new 21 75 rfl rfl
                    obtain ⟨_, hx365, rfl⟩ := hp349.new 22 76 rfl rfl
                    obtain ⟨_, hx366, rfl⟩ := hp349.new 23 77 rfl rfl
                    obtain ⟨_, hx367, rfl⟩ := hp349.new 24 78 rfl rfl
                    obtain ⟨_, hx368, rfl⟩ := hp349.new 25 79 rfl rfl
                    obtain ⟨_, hx369, rfl⟩ := hp349.new 26 80 rfl rfl
                    obtain ⟨_, hx370, rfl⟩ := hp349.new 27 81 rfl rfl
                    refine SeqR.done ?_
                    refine tn ?_
                    refine CW.sub (Sub.cons (d := 2) hx353 (Sub.cons (d := 3) hx354 (Sub.cons (d := 50) hx355 (Sub.cons (d := 51) hx356 (Sub.cons (d := 68) hx357 (Sub.cons (d := 69) hx358 (Sub.cons (d := 70) hx359 (Sub.cons (d := 71) hx360 (Sub.cons (d := 72) hx361 (Sub.cons (d := 73) hx362 (Sub.cons (d := 74) hx363 (Sub.cons (d := 75) hx364 (Sub.cons (d := 76) hx365 (Sub.cons (d := 77) hx366 (Sub.cons (d := 78) hx367 (Sub.cons (d := 79) hx368 (Sub.cons (d := 80) hx369 (Sub.cons (d := 81) hx370 (Sub.nil _))))))))))))))))))) ?_
                    refine bcase (decide (((p_0.Idxs.getD k151 d_Idx).Col) = ((p_1.Idxs.getD k151 d_Idx).Col))) (fun hb371 => ?_) (fun hb371 => ?_)
                    · have hb371p := dec_t hb371
                      refine CW.cond_f rfl (not_t hb371) ?_
                      refine CW.skip ?_
                      refine bn ?_
                      refine tn ?_
                      refine CW.region ?_
                      refine SeqR.d1 rfl rfl rfl (yl_inc rfl rfl rfl (by omega) ?_)
                      refine SeqR.d1 rfl rfl rfl (yl_move rfl rfl ?_)
                      refine SeqR.done ?_
                      refine tn ?_
                      have hB372 : B_s_l24SameCols_1 p_0 p_1 k151 () = .cont () := by simp only [B_s_l24SameCols_1, hb26, hb27, hb28, hb176, hb371, hL150, cond_true, cond_false, loopE_done, loopE_ret]
                      have q373 := Box.ex hf165 hE352
                      have q374 := RdS.ex good_Str hf166 hE352
                      have q375 := RdS.ex good_Idx hf167 hE352
                      have q376 := Box.ex hf168 hE352
                      have q377 := RdS.ex good_Str hf169 hE352
                      have q378 := RdS.ex good_Idx hf170 hE352
                      have q379 := Ex.trans hf171 hE352
                      exact ⟨p_0.Idxs.length - (k151 + 1), by omega, k151 + 1, rfl, hlt173, (by omega), rfl, rfl, rfl, rfl, q373, q374, q375, q376, q377, q378, q379, (loopM.cont hlt173 hB372).symm.trans hI159⟩
                    · have hb371p := dec_f hb371
                      refine CW.cond_t rfl (not_f hb371) ?_
                      refine CW.seq ?_
                      refine CW.region ?_
                      refine SeqR.d1 rfl rfl rfl (yl_assign rfl rfl ?_)
                      refine SeqR.done ?_
                      refine tn ?_
                      refine CW.ret ?_
                      refine br ?_
                      refine tr ?_
                      refine tr ?_
                      have hB381 : B_s_l24SameCols_1 p_0 p_1 k151 () = .ret false := by simp only [B_s_l24SameCols_1, hb26, hb27, hb28, hb176, hb371, hL150, cond_true, cond_false, loopE_done, loopE_ret]
                      have hL380 : loopM (B_s_l24SameCols_1 p_0 p_1) (p_0.Idxs.length - 0) 0 () = .ret false := hI159.symm.trans (loopM.ret hlt173 hB381)
                      refine br ?_
                      refine tr ?_
                      refine rr rfl (.cons rfl .nil) ?_
                      have hM382 : (s_l24SameCols p_0 p_1) = (false) := by simp only [s_l24SameCols, hb26, hb27, hb28, hb176, hb371, hL150, hL380, cond_true, cond_false, loopE_done, loopE_ret]
                      rw [hM382]
                      have q383 := Ex.trans hf171 hE352
                      exact ⟨rfl, q383⟩
                · skip
                  obtain ⟨eb384, eo384, ec384, eA384, eS384, ebl384, el384, eR384, eC384⟩ := RdS.atD hf167 d_Idx (i := k151) (by first | omega | assumption)
                  obtain rfl := eR384
                  have eC384 : Cells w157 eb384 (eo384 + k151 * 3) [.string (bs ((p_0.Idxs.getD k151 d_Idx).Name)), .int .i64 ((p_0.Idxs.getD k151 d_Idx).Col), .int .i64 ((p_0.Idxs.getD k151 d_Idx).Stage)] := eC384
                  obtain ⟨eb385, eo385, ec385, eA385, eS385, ebl385, el385, eR385, eC385⟩ := RdS.atD hf170 d_Idx (i := k151) (by first | omega | assumption)
                  obtain rfl := eR385
                  have eC385 : Cells w157 eb385 (eo385 + k151 * 3) [.string (bs ((p_1.Idxs.getD k151 d_Idx).Name)), .int .i64 ((p_1.Idxs.getD k151 d_Idx).Col), .int .i64 ((p_1.Idxs.getD k151 d_Idx).Stage)] := eC385
                  refine CW.drawsI 28 (vgetI [DetI (.pointer (some ⟨b13, 0 + 2, none⟩)), DetI (.slice A2 p_0.Idxs.length c2), DetI (.int .i64 ((k151 : Int))), DetI (.pointer (some ⟨eb384, eo384 + k151 * 3, none⟩)), DetI (.pointer (some ⟨eb384, eo384 + k151 * 3 + 0, none⟩)), DetI (.string (bs ((p_0.Idxs.getD k151 d_Idx).Name))), DetI (.pointer (some ⟨b19, 0 + 2, none⟩)), DetI (.slice A5 p_1.Idxs.length c5), DetI (.int .i64 ((k151 : Int))), DetI (.pointer (some ⟨eb385, eo385 + k151 * 3, none⟩)), DetI (.pointer (some ⟨eb385, eo385 + k151 * 3 + 0, none⟩)), DetI (.string (bs ((p_1.Idxs.getD k151 d_Idx).Name))), DetI (.bool (!(((p_0.Idxs.getD k151 d_Idx).Name) == ((p_1.Idxs.getD k151 d_Idx).Name)))), DetI (.bool (!(((p_0.Idxs.getD k151 d_Idx).Name) == ((p_1.Idxs.getD k151 d_Idx).Name)))), DetI (undef), DetI (undef), DetI (undef), DetI (undef), DetI (undef), DetI (undef), DetI (undef), DetI (undef), DetI (undef), DetI (undef), DetI (undef), DetI (undef), DetI (undef), DetI (.bool (true))]) Try.follows rfl rfl rfl rfl rfl rfl (vgetI_stable ⟨StableI.det _, StableI.det _, StableI.det _, StableI.det _, StableI.det _, StableI.det _, StableI.det _, StableI.det _, StableI.det _, StableI.det _, StableI.det _, StableI.det _, StableI.det _, StableI.det _, StableI.det _, StableI.det _, StableI.det _, StableI.det _, StableI.det _, StableI.det _, StableI.det _, StableI.det _, StableI.det _, StableI.det _, StableI.det _, StableI.det _, StableI.det _, StableI.det _, trivial⟩) ⟨?_, ?_, ?_, ?_, ?_, ?_, ?_, ?_, ?_, ?_, ?_, ?_, ?_, ?_, ?_, ?_, ?_, ?_, ?_, ?_, ?_, ?_, ?_, ?_, ?_, ?_, ?_, ?_, trivial⟩ ?_
                  · intro L386 w387 hi388
                    have hE389 := hi388.ex
                    have hE389z := Ex.size hE389
                    have hx390 := hi388.old 2 _ rfl rfl
                    exact OpR.op' rfl (Yl.sameI (yl_fieldAddr Try.fd35_2 rfl hx390 ⟨fun _ _ => rfl, rfl⟩))
                  · intro L391 w392 hi393
                    have hE394 := hi393.ex
                    have hE394z := Ex.size hE394
                    obtain ⟨_, _, _, hx395, -, -, -, rfl⟩ := hi393.dep 0 54 rfl rfl
                    have q396 := Box.ex hf165 hE394
                    exact OpR.op' rfl (Yl.sameI (yl_load1 Try.ty33 rfl hx395 ((q396.cell 2).trans rfl) ⟨fun _ _ => rfl, rfl⟩))
                  · intro L397 w398 hi399
                    have hE400 := hi399.ex
                    have hE400z := Ex.size hE400
                    have hx401 := hi399.old 6 _ rfl rfl
                    exact OpR.op' rfl (Yl.sameI (yl_move rfl hx401 ⟨fun _ _ => rfl, rfl⟩))
                  · intro L402 w403 hi404
                    have hE405 := hi404.ex
                    have hE405z := Ex.size hE405
                    obtain ⟨_, _, _, hx406, -, -, -, rfl⟩ := hi404.dep 1 55 rfl rfl
                    obtain ⟨_, _, _, hx407, -, -, -, rfl⟩ := hi404.dep 2 56 rfl rfl
                    exact OpR.op' rfl (Yl.sameI (yl_indexAddrN Try.un33 Try.ty132 rfl hx406 hx407 eA384 (by first | omega | assumption | (simp only [IntKind.wrap_i64] at *; omega)) ⟨fun _ _ => rfl, rfl⟩))
                  · intro L408 w409 hi410
                    have hE411 := hi410.ex
                    have hE411z := Ex.size hE411
                    obtain ⟨_, _, _, hx412, -, -, -, rfl⟩ := hi410.dep 3 57 rfl rfl
                    exact OpR.op' rfl (Yl.sameI (yl_fieldAddr Try.fd132_0 rfl hx412 ⟨fun _ _ => rfl, rfl⟩))
                  · intro L413 w414 hi415
                    have hE416 := hi415.ex
                    have hE416z := Ex.size hE416
                    obtain ⟨_, _, _, hx417, -, -, -, rfl⟩ := hi415.dep 4 58 rfl rfl
                    have q418 := Cells.ex eC384 hE416
                    exact OpR.op' rfl (Yl.sameI (yl_load1 Try.ty9 rfl hx417 (q418 0 _ rfl) ⟨fun _ _ => rfl, rfl⟩))
                  · intro L419 w420 hi421
                    have hE422 := hi421.ex
                    have hE422z := Ex.size hE422
                    have hx423 := hi421.old 3 _ rfl rfl
                    exact OpR.op' rfl (Yl.sameI (yl_fieldAddr Try.fd35_2 rfl hx423 ⟨fun _ _ => rfl, rfl⟩))
                  · intro L424 w425 hi426
                    have hE427 := hi426.ex
                    have hE427z := Ex.size hE427
                    obtain ⟨_, _, _, hx428, -, -, -, rfl⟩ := hi426.dep 6 60 rfl rfl
                    have q429 := Box.ex hf168 hE427
                    exact OpR.op' rfl (Yl.sameI (yl_load1 Try.ty33 rfl hx428 ((q429.cell 2).trans rfl) ⟨fun _ _ => rfl, rfl⟩))
                  · intro L430 w431 hi432
                    have hE433 := hi432.ex
                    have hE433z := Ex.size hE433
                    have hx434 := hi432.old 6 _ rfl rfl
                    exact OpR.op' rfl (Yl.sameI (yl_move rfl hx434 ⟨fun _ _ => rfl, rfl⟩))
                  · intro L435 w436 hi437
                    have hE438 := hi437.ex
                    have hE438z := Ex.size hE438
                    obtain ⟨_, _, _, hx439, -, -, -, rfl⟩ := hi437.dep 7 61 rfl rfl
                    obtain ⟨_, _, _, hx440, -, -, -, rfl⟩ := hi437.dep 8 62 rfl rfl
                    exact OpR.op' rfl (Yl.sameI (yl_indexAddrN Try.un33 Try.ty132 rfl hx439 hx440 eA385 (by first | omega | assumption | (simp only [IntKind.wrap_i64] at *; omega)) ⟨fun _ _ => rfl, rfl⟩))
                  · intro L441 w442 hi443
                    have hE444 := hi443.ex
                    have hE444z := Ex.size hE444
                    obtain ⟨_, _, _, hx445, -, -, -, rfl⟩ := hi443.dep 9 63 rfl rfl
                    exact OpR.op' rfl (Yl.sameI (yl_fieldAddr Try.fd132_0 rfl hx445 ⟨fun _ _ => rfl, rfl⟩))
                  · intro L446 w447 hi448
                    have hE449 := hi448.ex
                    have hE449z := Ex.size hE449
                    obtain ⟨_, _, _, hx450, -, -, -, rfl⟩ := hi448.dep 10 64 rfl rfl
                    have q451 := Cells.ex eC385 hE449
                    exact OpR.op' rfl (Yl.sameI (yl_load1 Try.ty9 rfl hx450 (q451 0 _ rfl) ⟨fun _ _ => rfl, rfl⟩))
                  · intro L452 w453 hi454
                    have hE455 := hi454.ex
                    have hE455z := Ex.size hE455
                    obtain ⟨_, _, _, hx456, -, -, -, rfl⟩ := hi454.dep 5 59 rfl rfl
                    obtain ⟨_, _, _, hx457, -, -, -, rfl⟩ := hi454.dep 11 65 rfl rfl
                    exact OpR.op' rfl (Yl.sameI (yl_sneq (a := ((p_0.Idxs.getD k151 d_Idx).Name)) (b := ((p_1.Idxs.getD k151 d_Idx).Name)) rfl hx456 hx457 ⟨fun _ _ => rfl, rfl⟩))
                  · intro L458 w459 hi460
                    have hE461 := hi460.ex
                    have hE461z := Ex.size hE461
                    obtain ⟨_, _, _, hx462, -, -, -, rfl⟩ := hi460.dep 12 66 rfl rfl
                    exact OpR.op' rfl (Yl.sameI (yl_move rfl hx462 ⟨fun _ _ => rfl, rfl⟩))
                  · intro L463 w464 hi465
                    have hE466 := hi465.ex
                    have hE466z := Ex.size hE466
                    obtain ⟨_, _, _, hx467, -, -, -, rfl⟩ := hi465.dep 13 67 rfl rfl
                    exact OpR.skip rfl rfl hx467 (not_f hb176) ⟨rfl, Ex.refl _⟩
                  · intro L468 w469 hi470
                    have hE471 := hi470.ex
                    have hE471z := Ex.size hE471
                    obtain ⟨_, _, _, hx472, -, -, -, rfl⟩ := hi470.dep 13 67 rfl rfl
                    exact OpR.skip rfl rfl hx472 (not_f hb176) ⟨rfl, Ex.refl _⟩
                  · intro L473 w474 hi475
                    have hE476 := hi475.ex
                    have hE476z := Ex.size hE476
                    obtain ⟨_, _, _, hx477, -, -, -, rfl⟩ := hi475.dep 13 67 rfl rfl
                    exact OpR.skip rfl rfl hx477 (not_f hb176) ⟨rfl, Ex.refl _⟩
                  · intro L478 w479 hi480
                    have hE481 := hi480.ex
                    have hE481z := Ex.size hE481
                    obtain ⟨_, _, _, hx482, -, -, -, rfl⟩ := hi480.dep 13 67 rfl rfl
                    exact OpR.skip rfl rfl hx482 (not_f hb176) ⟨rfl, Ex.refl _⟩
                  · intro L483 w484 hi485
                    have hE486 := hi485.ex
                    have hE486z := Ex.size hE486
                    obtain ⟨_, _, _, hx487, -, -, -, rfl⟩ := hi485.dep 13 67 rfl rfl
                    exact OpR.skip rfl rfl hx487 (not_f hb176) ⟨rfl, Ex.refl _⟩
                  · intro L488 w489 hi490
                    have hE491 := hi490.ex
                    have hE491z := Ex.size hE491
                    obtain ⟨_, _, _, hx492, -, -, -, rfl⟩ := hi490.dep 13 67 rfl rfl
                    exact OpR.skip rfl rfl hx492 (not_f hb176) ⟨rfl, Ex.refl _⟩
                  · intro L493 w494 hi495
                    have hE496 := hi495.ex
                    have hE496z := Ex.size hE496
                    obtain ⟨_, _, _, hx497, -, -, -, rfl⟩ := hi495.dep 13 67 rfl rfl
                    exact OpR.skip rfl rfl hx497 (not_f hb176) ⟨rfl, Ex.refl _⟩
                  · intro L498 w499 hi500
                    have hE501 := hi500.ex
                    have hE501z := Ex.size hE501
                    obtain ⟨_, _, _, hx502, -, -, -, rfl⟩ := hi500.dep 13 67 rfl rfl
                    exact OpR.skip rfl rfl hx502 (not_f hb176) ⟨rfl, Ex.refl _⟩
                  · intro L503 w504 hi505
                    have hE506 := hi505.ex
                    have hE506z := Ex.size hE506
                    obtain ⟨_, _, _, hx507, -, -, -, rfl⟩ := hi505.dep 13 67 rfl rfl
                    exact OpR.skip rfl rfl hx507 (not_f hb176) ⟨rfl, Ex.refl _⟩
                  · intro L508 w509 hi510
                    have hE511 := hi510.ex
                    have hE511z := Ex.size hE511
                    obtain ⟨_, _, _, hx512, -, -, -, rfl⟩ := hi510.dep 13 67 rfl rfl
                    exact OpR.skip rfl rfl hx512 (not_f hb176) ⟨rfl, Ex.refl _⟩
                  · intro L513 w514 hi515
                    have hE516 := hi515.ex
                    have hE516z := Ex.size hE516
                    obtain ⟨_, _, _, hx517, -, -, -, rfl⟩ := hi515.dep 13 67 rfl rfl
                    exact OpR.skip rfl rfl hx517 (not_f hb176) ⟨rfl, Ex.refl _⟩
                  · intro L518 w519 hi520
                    have hE521 := hi520.ex
                    have hE521z := Ex.size hE521
                    obtain ⟨_, _, _, hx522, -, -, -, rfl⟩ := hi520.dep 13 67 rfl rfl
                    exact OpR.skip rfl rfl hx522 (not_f hb176) ⟨rfl, Ex.refl _⟩
                  · intro L523 w524 hi525
                    have hE526 := hi525.ex
                    have hE526z := Ex.size hE526
                    obtain ⟨_, _, _, hx527, -, -, -, rfl⟩ := hi525.dep 13 67 rfl rfl
                    exact OpR.skip rfl rfl hx527 (not_f hb176) ⟨rfl, Ex.refl _⟩
                  · intro L528 w529 hi530
                    have hE531 := hi530.ex
                    have hE531z := Ex.size hE531
                    obtain ⟨_, _, _, hx532, -, -, -, rfl⟩ := hi530.dep 26 80 rfl rfl
                    obtain ⟨_, _, _, hx533, -, -, -, rfl⟩ := hi530.dep 13 67 rfl rfl
                    exact OpR.op' rfl (Yl.sameI (yl_pick_t rfl hx533 (not_f hb176) rfl ⟨fun _ _ => rfl, rfl⟩))
                  · intro fl537 fh538 L534 w535 hp536
                    have hE539 := hp536.ex
                    have hE539z := Ex.size hE539
                    have hx540 := hp536.old 2 _ rfl rfl
                    have hx541 := hp536.old 3 _ rfl rfl
                    have hx542 := hp536.old 50 _ rfl rfl
                    have hx543 := hp536.old 51 _ rfl rfl
                    obtain ⟨_, hx544, rfl⟩ := hp536.new 14 68 rfl rfl
                    obtain ⟨_, hx545, rfl⟩ := hp536.new 15 69 rfl rfl
                    obtain ⟨_, hx546, rfl⟩ := hp536.new 16 70 rfl rfl
                    obtain ⟨_, hx547, rfl⟩ := hp536.new 17 71 rfl rfl
                    obtain ⟨_, hx548, rfl⟩ := hp536.new 18 72 rfl rfl
                    obtain ⟨_, hx549, rfl⟩ := hp536.new 19 73 rfl rfl
                    obtain ⟨_, hx550, rfl⟩ := hp536.new 20 74 rfl rfl
                    obtain ⟨_, hx551, rfl⟩ := hp536.new 21 75 rfl rfl
                    obtain ⟨_, hx552, rfl⟩ := hp536.new 22 76 rfl rfl
                    obtain ⟨_, hx553, rfl⟩ := hp536.new 23 77 rfl rfl
                    obtain ⟨_, hx554, rfl⟩ := hp536.new 24 78 rfl rfl
                    obtain ⟨_, hx555, rfl⟩ := hp536.new 25 79 rfl rfl
                    obtain ⟨_, hx556, rfl⟩ := hp536.new 26 80 rfl rfl
                    obtain ⟨_, hx557, rfl⟩ := hp536.new 27 81 rfl rfl
                    refine SeqR.done ?_
                    refine tn ?_
                    refine CW.sub (Sub.cons (d := 2) hx540 (Sub.cons (d := 3) hx541 (Sub.cons (d := 50) hx542 (Sub.cons (d := 51) hx543 (Sub.cons (d := 68) hx544 (Sub.cons (d := 69) hx545 (Sub.cons (d := 70) hx546 (Sub.cons (d := 71) hx547 (Sub.cons (d := 72) hx548 (Sub.cons (d := 73) hx549 (Sub.cons (d := 74) hx550 (Sub.cons (d := 75) hx551 (Sub.cons (d := 76) hx552 (Sub.cons (d := 77) hx553 (Sub.cons (d := 78) hx554 (Sub.cons (d := 79) hx555 (Sub.cons (d := 80) hx556 (Sub.cons (d := 81) hx557 (Sub.nil _))))))))))))))))))) ?_
                    refine CW.cond_t rfl rfl ?_
                    refine CW.seq ?_
                    refine CW.region ?_
                    refine SeqR.d1 rfl rfl rfl (yl_assign rfl rfl ?_)
                    refine SeqR.done ?_
                    refine tn ?_
                    refine CW.ret ?_
                    refine br ?_
                    refine tr ?_
                    refine tr ?_
                    have hB559 : B_s_l24SameCols_1 p_0 p_1 k151 () = .ret false := by simp only [B_s_l24SameCols_1, hb26, hb27, hb28, hb176, hL150, cond_true, cond_false, loopE_done, loopE_ret]
                    have hL558 : loopM (B_s_l24SameCols_1 p_0 p_1) (p_0.Idxs.length - 0) 0 () = .ret false := hI159.symm.trans (loopM.ret hlt173 hB559)
                    refine br ?_
                    refine tr ?_
                    refine rr rfl (.cons rfl .nil) ?_
                    have hM560 : (s_l24SameCols p_0 p_1) = (false) := by simp only [s_l24SameCols, hb26, hb27, hb28, hb176, hL150, hL558, cond_true, cond_false, loopE_done, loopE_ret]
                    rw [hM560]
                    have q561 := Ex.trans hf171 hE539
                    exact ⟨rfl, q561⟩
              · skip
                refine CW.seq ?_
                refine CW.region ?_
                refine SeqR.d1 rfl rfl rfl (yl_lss rfl rfl rfl ?_)
                refine SeqR.done ?_
                refine tn ?_
                refine CW.seq ?_
                refine CW.cond_f rfl (lt_f hlt173) ?_
                refine CW.exit ?_
                refine tx ?_
                refine tx ?_
                have hL562 : loopM (B_s_l24SameCols_1 p_0 p_1) (p_0.Idxs.length - 0) 0 () = .done () := hI159.symm.trans (loopM.stop hlt173)
                refine bx ?_
                refine tn ?_
                refine CW.seq ?_
                refine CW.region ?_
                refine SeqR.d1 rfl rfl rfl (yl_assign rfl rfl ?_)
                refine SeqR.done ?_
                refine tn ?_
                refine CW.ret ?_
                refine rr rfl (.cons rfl .nil) ?_
                have hM563 : (s_l24SameCols p_0 p_1) = (true) := by simp only [s_l24SameCols, hb26, hb27, hb28, hL150, hL562, cond_true, cond_false, loopE_done, loopE_ret]
                rw [hM563]
                exact ⟨rfl, hf171⟩
      · have hb28p := dec_f hb28
        refine CW.cond_t rfl (not_f hb28) ?_
        refine CW.seq ?_
        refine CW.region ?_
        refine SeqR.d1 rfl rfl rfl (yl_assign rfl rfl ?_)
        refine SeqR.done ?_
        refine tn ?_
        refine CW.ret ?_
        refine tr ?_
        refine rr rfl (.cons rfl .nil) ?_
        have hM564 : (s_l24SameCols p_0 p_1) = (false) := by simp only [s_l24SameCols, hb26, hb27, hb28, cond_true, cond_false, loopE_done, loopE_ret]
        rw [hM564]
        have q565 := Ex.trans (Ex.refl w) hE18
        have q566 := Ex.trans q565 hE24
        exact ⟨rfl, q566⟩
    · have hb27p := dec_f hb27
      refine SeqR.z rfl rfl rfl rfl rfl (not_f hb27) ?_
      refine SeqR.z rfl rfl rfl rfl rfl (not_f hb27) ?_
      refine SeqR.z rfl rfl rfl rfl rfl (not_f hb27) ?_
      refine SeqR.z rfl rfl rfl rfl rfl (not_f hb27) ?_
      refine SeqR.z rfl rfl rfl rfl rfl (not_f hb27) ?_
      refine SeqR.z rfl rfl rfl rfl rfl (not_f hb27) ?_
      refine SeqR.z rfl rfl rfl rfl rfl (not_f hb27) ?_
      refine SeqR.d1 rfl rfl rfl (yl_pick_t rfl rfl (not_f hb27) rfl ?_)
      refine SeqR.done ?_
      refine tn ?_
      refine CW.cond_t rfl rfl ?_
      refine CW.seq ?_
      refine CW.region ?_
      refine SeqR.d1 rfl rfl rfl (yl_assign rfl rfl ?_)
      refine SeqR.done ?_
      refine tn ?_
      refine CW.ret ?_
      refine tr ?_
      refine rr rfl (.cons rfl .nil) ?_
      have hM567 : (s_l24SameCols p_0 p_1) = (false) := by simp only [s_l24SameCols, hb26, hb27, cond_true, cond_false, loopE_done, loopE_ret]
      rw [hM567]
      have q568 := Ex.trans (Ex.refl w) hE18
      have q569 := Ex.trans q568 hE24
      exact ⟨rfl, q569⟩
  · skip
    refine SeqR.z rfl rfl rfl rfl rfl (not_f hb26) ?_
    refine SeqR.z rfl rfl rfl rfl rfl (not_f hb26) ?_
    refine SeqR.z rfl rfl rfl rfl rfl (not_f hb26) ?_
    refine SeqR.z rfl rfl rfl rfl rfl (not_f hb26) ?_
    refine SeqR.z rfl rfl rfl rfl rfl (not_f hb26) ?_
    refine SeqR.z rfl rfl rfl rfl rfl (not_f hb26) ?_
    refine SeqR.z rfl rfl rfl rfl rfl (not_f hb26) ?_
    refine SeqR.d1 rfl rfl rfl (yl_pick_t rfl rfl (not_f hb26) rfl ?_)
    refine SeqR.d1 rfl rfl rfl (yl_move rfl rfl ?_)
    refine SeqR.z rfl rfl rfl rfl rfl rfl ?_
    refine SeqR.z rfl rfl rfl rfl rfl rfl ?_
    refine SeqR.z rfl rfl rfl rfl rfl rfl ?_
    refine SeqR.z rfl rfl rfl rfl rfl rfl ?_
    refine SeqR.z rfl rfl rfl rfl rfl rfl ?_
    refine SeqR.z rfl rfl rfl rfl rfl rfl ?_
    refine SeqR.z rfl rfl rfl rfl rfl rfl ?_
    refine SeqR.d1 rfl rfl rfl (yl_pick_t rfl rfl rfl rfl ?_)
    refine SeqR.done ?_
    refine tn ?_
    refine CW.cond_t rfl rfl ?_
    refine CW.seq ?_
    refine CW.region ?_
    refine SeqR.d1 rfl rfl rfl (yl_assign rfl rfl ?_)
    refine SeqR.done ?_
    refine tn ?_
    refine CW.ret ?_
    refine tr ?_
    refine rr rfl (.cons rfl .nil) ?_
    have hM570 : (s_l24SameCols p_0 p_1) = (false) := by simp only [s_l24SameCols, hb26, cond_true, cond_false, loopE_done, loopE_ret]
    rw [hM570]
    have q571 := Ex.trans (Ex.refl w) hE18
    have q572 := Ex.trans q571 hE24
    exact ⟨rfl, q572⟩
set_option maxRecDepth 100000 in
set_option maxHeartbeats 2000000 in
theorem c_s_l1Most {w : World} (p_a : Int) (p_b : Int) : Cal Try.prog 162 #[.int .i64 (p_a), .int .i64 (p_b)] w fun v w' => v = .int .i64 ((s_l1Most p_a p_b)) ∧ Ex w w' := by
  refine Cal.of (vs := [.int .i64 (p_a), .int .i64 (p_b)]) Try.func162 rfl Try.ntmps162 rfl ?_
  refine CW.seq ?_
  refine CW.region ?_
  refine SeqR.d1 rfl rfl rfl (yl_assign rfl rfl ?_)
  refine SeqR.done ?_
  refine tn ?_
  refine CW.seq ?_
  refine CW.seq ?_
  refine CW.region ?_
  refine SeqR.d1 rfl rfl rfl (yl_move rfl rfl ?_)
  refine SeqR.d1 rfl rfl rfl (yl_move rfl rfl ?_)
  refine SeqR.d1 rfl rfl rfl (yl_gtr rfl rfl rfl ?_)
  refine SeqR.done ?_
  refine tn ?_
  refine bcase (decide (p_b < p_a)) (fun hb1 => ?_) (fun hb1 => ?_)
  · have hb1p := dec_t hb1
    refine CW.cond_t rfl hb1 ?_
    refine CW.seq ?_
    refine CW.region ?_
    refine SeqR.d1 rfl rfl rfl (yl_move rfl rfl ?_)
    refine SeqR.d1 rfl rfl rfl (yl_assign rfl rfl ?_)
    refine SeqR.done ?_
    refine tn ?_
    refine CW.ret ?_
    refine tr ?_
    refine rr rfl (.cons rfl .nil) ?_
    have hM2 : (s_l1Most p_a p_b) = (p_a) := by simp only [s_l1Most, hb1, cond_true, cond_false, loopE_done, loopE_ret]
    rw [hM2]
    exact ⟨rfl, (Ex.refl w)⟩
  · have hb1p := dec_f hb1
    refine CW.cond_f rfl hb1 ?_
    refine CW.skip ?_
    refine tn ?_
    refine CW.seq ?_
    refine CW.region ?_
    refine SeqR.d1 rfl rfl rfl (yl_move rfl rfl ?_)
    refine SeqR.d1 rfl rfl rfl (yl_assign rfl rfl ?_)
    refine SeqR.done ?_
    refine tn ?_
    refine CW.ret ?_
    refine rr rfl (.cons rfl .nil) ?_
    have hM3 : (s_l1Most p_a p_b) = (p_b) := by simp only [s_l1Most, hb1, cond_true, cond_false, loopE_done, loopE_ret]
    rw [hM3]
    exact ⟨rfl, (Ex.refl w)⟩
set_option maxRecDepth 100000 in
set_option maxHeartbeats 2000000 in
theorem c_s_l24Far {A1 : Option Addr} {c1 : Nat} {A2 : Option Addr} {c2 : Nat} {A4 : Option Addr} {c4 : Nat} {A5 : Option Addr} {c5 : Nat} {w : World} (p_a : DTable) (p_b : DTable) (h1 : RdS w (Iv 0 w.heap.size) (RF e_Str) 1 A1 p_a.Cols.length c1 p_a.Cols) (h2 : RdS w (Iv 0 w.heap.size) (RF e_Idx) 3 A2 p_a.Idxs.length c2 p_a.Idxs) (h4 : RdS w (Iv 0 w.heap.size) (RF e_Str) 1 A4 p_b.Cols.length c4 p_b.Cols) (h5 : RdS w (Iv 0 w.heap.size) (RF e_Idx) 3 A5 p_b.Idxs.length c5 p_b.Idxs) (o3 : ok_Table p_a) (o6 : ok_Table p_b) (pre0 : p_a.Idxs.length = p_b.Idxs.length) : Cal Try.prog 93 #[.agg #[.string (bs (p_a.Name)), .slice A1 p_a.Cols.length c1, .slice A2 p_a.Idxs.length c2], .agg #[.string (bs (p_b.Name)), .slice A4 p_b.Cols.length c4, .slice A5 p_b.Idxs.length c5]] w fun v w' => v = .int .i64 ((s_l24Far p_a p_b)) ∧ Ex w w' := by
  have hol7 : p_a.Name.length ≤ 1073741824 := o3.1
  have hol8 := o3.2.1.1
  have hol9 := o3.2.2.1
  have hol10 : p_b.Name.length ≤ 1073741824 := o6.1
  have hol11 := o6.2.1.1
  have hol12 := o6.2.2.1
  refine Cal.of (vs := [.agg #[.string (bs (p_a.Name)), .slice A1 p_a.Cols.length c1, .slice A2 p_a.Idxs.length c2], .agg #[.string (bs (p_b.Name)), .slice A4 p_b.Cols.length c4, .slice A5 p_b.Idxs.length c5]]) Try.func93 rfl Try.ntmps93 rfl ?_
  refine CW.seq ?_
  refine CW.region ?_
  refine SeqR.d1 rfl rfl rfl (yl_box (cs := [.string (bs (p_a.Name)), .slice A1 p_a.Cols.length c1, .slice A2 p_a.Idxs.length c2]) rfl rfl rfl ?_)
  intro b13 w14 hs15 hz16 hB17 hE18
  refine SeqR.d1 rfl rfl rfl (yl_box (cs := [.string (bs (p_b.Name)), .slice A4 p_b.Cols.length c4, .slice A5 p_b.Idxs.length c5]) rfl rfl rfl ?_)
  intro b19 w20 hs21 hz22 hB23 hE24
  refine SeqR.d1 rfl rfl rfl (yl_assign rfl rfl ?_)
  refine SeqR.done ?_
  refine tn ?_
  refine CW.seq ?_
  refine CW.region ?_
  refine SeqR.d1 rfl rfl rfl (yl_assign rfl rfl ?_)
  refine SeqR.done ?_
  refine tn ?_
  refine CW.seq ?_
  refine CW.seq ?_
  refine CW.region ?_
  refine SeqR.d1 rfl rfl rfl (yl_fieldAddr Try.fd35_2 rfl rfl ?_)
  have q25 := Box.ex hB17 hE24
  refine SeqR.d1 rfl rfl rfl (yl_load1 Try.ty33 rfl rfl ((q25.cell 2).trans rfl) ?_)
  refine SeqR.d1 rfl rfl rfl (yl_len Try.un33 rfl rfl ?_)
  refine SeqR.d1 rfl rfl rfl (yl_move rfl rfl ?_)
  refine SeqR.done ?_
  refine tn ?_
  refine CW.block ?_
  have q31 := RdS.ex good_Str h1 hE18
  have q32 := RdS.ex good_Str q31 hE24
  have q33 := RdS.ex good_Idx h2 hE18
  have q34 := RdS.ex good_Idx q33 hE24
  have q35 := RdS.ex good_Str h4 hE18
  have q36 := RdS.ex good_Str q35 hE24
  have q37 := RdS.ex good_Idx h5 hE18
  have q38 := RdS.ex good_Idx q37 hE24
  have q39 := Ex.trans (Ex.refl w) hE18
  have q40 := Ex.trans q39 hE24
  refine CW.loop (fun m28 L29 w30 => ∃ (k26 : Nat) (x27 : Int), m28 = p_a.Idxs.length - k26 ∧ k26 ≤ p_a.Idxs.length ∧ w20.heap.size ≤ w30.heap.size ∧ lkp L29 2 = some (.pointer (some ⟨b13, 0, none⟩)) ∧ lkp L29 3 = some (.pointer (some ⟨b19, 0, none⟩)) ∧ lkp L29 5 = some (.int .i64 (x27)) ∧ lkp L29 10 = some (.int .i64 ((p_a.Idxs.length : Int))) ∧ lkp L29 11 = some (.int .i64 ((k26 : Int))) ∧ Box w30 b13 35 [.string (bs (p_a.Name)), .slice A1 p_a.Cols.length c1, .slice A2 p_a.Idxs.length c2] ∧ RdS w30 (Iv 0 w.heap.size) (RF e_Str) 1 A1 p_a.Cols.length c1 p_a.Cols ∧ RdS w30 (Iv 0 w.heap.size) (RF e_Idx) 3 A2 p_a.Idxs.length c2 p_a.Idxs ∧ Box w30 b19 35 [.string (bs (p_b.Name)), .slice A4 p_b.Cols.length c4, .slice A5 p_b.Idxs.length c5] ∧ RdS w30 (Iv 0 w.heap.size) (RF e_Str) 1 A4 p_b.Cols.length c4 p_b.Cols ∧ RdS w30 (Iv 0 w.heap.size) (RF e_Idx) 3 A5 p_b.Idxs.length c5 p_b.Idxs ∧ Ex w w30 ∧ loopM (B_s_l24Far_0 p_a p_b) (p_a.Idxs.length - k26) k26 (x27) = loopM (B_s_l24Far_0 p_a p_b) (p_a.Idxs.length - 0) 0 (0)) (p_a.Idxs.length - 0) ?_ ?_
  · exact ⟨0, 0, rfl, (by omega), Nat.le_refl _, rfl, rfl, rfl, rfl, rfl, q25, q32, q34, hB23, q36, q38, q40, rfl⟩
  · rintro m41 L42 w43 ⟨k26, x27, rfl, hk44, hsz46, hl47, hl48, hl49, hl50, hl51, hf52, hf53, hf54, hf55, hf56, hf57, hf58, hI45⟩
    refine CW.sub (Sub.cons hl47 (Sub.cons hl48 (Sub.cons hl49 (Sub.cons hl50 (Sub.cons hl51 (Sub.nil _)))))) ?_
    have hf52z := Box.lt hf52
    have hf55z := Box.lt hf55
    have hf58z := Ex.size hf58
    have hbg59 := RdS.big hf54
    rcases Nat.lt_or_ge k26 p_a.Idxs.length with hlt60 | hlt60
    · skip
      refine CW.seq ?_
      refine CW.region ?_
      refine SeqR.d1 rfl rfl rfl (yl_lss rfl rfl rfl ?_)
      refine SeqR.done ?_
      refine tn ?_
      refine CW.seq ?_
      refine CW.cond_t rfl (lt_t hlt60) ?_
      refine CW.skip ?_
      refine tn ?_
      refine CW.seq ?_
      refine CW.block ?_
      refine CW.seq ?_
      refine CW.region ?_
      refine SeqR.d1 rfl rfl rfl (yl_move rfl rfl ?_)
      refine SeqR.d1 rfl rfl rfl (yl_assign rfl rfl ?_)
      refine SeqR.done ?_
      refine tn ?_
      refine CW.seq ?_
      obtain ⟨eb61, eo61, ec61, eA61, eS61, ebl61, el61, eR61, eC61⟩ := RdS.atD hf54 d_Idx (i := k26) (by first | omega | assumption)
      obtain rfl := eR61
      have eC61 : Cells w43 eb61 (eo61 + k26 * 3) [.string (bs ((p_a.Idxs.getD k26 d_Idx).Name)), .int .i64 ((p_a.Idxs.getD k26 d_Idx).Col), .int .i64 ((p_a.Idxs.getD k26 d_Idx).Stage)] := eC61
      obtain ⟨eb62, eo62, ec62, eA62, eS62, ebl62, el62, eR62, eC62⟩ := RdS.atD hf57 d_Idx (i := k26) (by first | omega | assumption)
      obtain rfl := eR62
      have eC62 : Cells w43 eb62 (eo62 + k26 * 3) [.string (bs ((p_b.Idxs.getD k26 d_Idx).Name)), .int .i64 ((p_b.Idxs.getD k26 d_Idx).Col), .int .i64 ((p_b.Idxs.getD k26 d_Idx).Stage)] := eC62
      refine CW.drawsI 14 (vgetI [DetI (.pointer (some ⟨b13, 0 + 2, none⟩)), DetI (.slice A2 p_a.Idxs.length c2), DetI (.int .i64 ((k26 : Int))), DetI (.pointer (some ⟨eb61, eo61 + k26 * 3, none⟩)), DetI (.pointer (some ⟨eb61, eo61 + k26 * 3 + 2, none⟩)), DetI (.int .i64 ((p_a.Idxs.getD k26 d_Idx).Stage)), DetI (.pointer (some ⟨b19, 0 + 2, none⟩)), DetI (.slice A5 p_b.Idxs.length c5), DetI (.int .i64 ((k26 : Int))), DetI (.pointer (some ⟨eb62, eo62 + k26 * 3, none⟩)), DetI (.pointer (some ⟨eb62, eo62 + k26 * 3 + 2, none⟩)), DetI (.int .i64 ((p_b.Idxs.getD k26 d_Idx).Stage)), DetI (.int .i64 (IntKind.wrap .i64 (((p_a.Idxs.getD k26 d_Idx).Stage) - ((p_b.Idxs.getD k26 d_Idx).Stage)))), DetI (.int .i64 (IntKind.wrap .i64 (((p_a.Idxs.getD k26 d_Idx).Stage) - ((p_b.Idxs.getD k26 d_Idx).Stage))))]) Try.follows rfl rfl rfl rfl rfl rfl (vgetI_stable ⟨StableI.det _, StableI.det _, StableI.det _, StableI.det _, StableI.det _, StableI.det _, StableI.det _, StableI.det _, StableI.det _, StableI.det _, StableI.det _, StableI.det _, StableI.det _, StableI.det _, trivial⟩) ⟨?_, ?_, ?_, ?_, ?_, ?_, ?_, ?_, ?_, ?_, ?_, ?_, ?_, ?_, trivial⟩ ?_
      · intro L63 w64 hi65
        have hE66 := hi65.ex
        have hE66z := Ex.size hE66
        have hx67 := hi65.old 2 _ rfl rfl
        exact OpR.op' rfl (Yl.sameI (yl_fieldAddr Try.fd35_2 rfl hx67 ⟨fun _ _ => rfl, rfl⟩))
      · intro L68 w69 hi70
        have hE71 := hi70.ex
        have hE71z := Ex.size hE71
        obtain ⟨_, _, _, hx72, -, -, -, rfl⟩ := hi70.dep 0 14 rfl rfl
        have q73 := Box.ex hf52 hE71
        exact OpR.op' rfl (Yl.sameI (yl_load1 Try.ty33 rfl hx72 ((q73.cell 2).trans rfl) ⟨fun _ _ => rfl, rfl⟩))
      · intro L74 w75 hi76
        have hE77 := hi76.ex
        have hE77z := Ex.size hE77
        have hx78 := hi76.old 6 _ rfl rfl
        exact OpR.op' rfl (Yl.sameI (yl_move rfl hx78 ⟨fun _ _ => rfl, rfl⟩))
      · intro L79 w80 hi81
        have hE82 := hi81.ex
        have hE82z := Ex.size hE82
        obtain ⟨_, _, _, hx83, -, -, -, rfl⟩ := hi81.dep 1 15 rfl rfl
        obtain ⟨_, _, _, hx84, -, -, -, rfl⟩ := hi81.dep 2 16 rfl rfl
        exact OpR.op' rfl (Yl.sameI (yl_indexAddrN Try.un33 Try.ty132 rfl hx83 hx84 eA61 (by first | omega | assumption | (simp only [IntKind.wrap_i64] at *; omega)) ⟨fun _ _ => rfl, rfl⟩))
      · intro L85 w86 hi87
        have hE88 := hi87.ex
        have hE88z := Ex.size hE88
        obtain ⟨_, _, _, hx89, -, -, -, rfl⟩ := hi87.dep 3 17 rfl rfl
        exact OpR.op' rfl (Yl.sameI (yl_fieldAddr Try.fd132_2 rfl hx89 ⟨fun _ _ => rfl, rfl⟩))
      · intro L90 w91 hi92
        have hE93 := hi92.ex
        have hE93z := Ex.size hE93
        obtain ⟨_, _, _, hx94, -, -, -, rfl⟩ := hi92.dep 4 18 rfl rfl
        have q95 := Cells.ex eC61 hE93
        exact OpR.op' rfl (Yl.sameI (yl_load1 Try.ty3 rfl hx94 (q95 2 _ rfl) ⟨fun _ _ => rfl, rfl⟩))
      · intro L96 w97 hi98
        have hE99 := hi98.ex
        have hE99z := Ex.size hE99
        have hx100 := hi98.old 3 _ rfl rfl
        exact OpR.op' rfl (Yl.sameI (yl_fieldAddr Try.fd35_2 rfl hx100 ⟨fun _ _ => rfl, rfl⟩))
      · intro L101 w102 hi103
        have hE104 := hi103.ex
        have hE104z := Ex.size hE104
        obtain ⟨_, _, _, hx105, -, -, -, rfl⟩ := hi103.dep 6 20 rfl rfl
        have q106 := Box.ex hf55 hE104
        exact OpR.op' rfl (Yl.sameI (yl_load1 Try.ty33 rfl hx105 ((q106.cell 2).trans rfl) ⟨fun _ _ => rfl, rfl⟩))
      · intro L107 w108 hi109
        have hE110 := hi109.ex
        have hE110z := Ex.size hE110
        have hx111 := hi109.old 6 _ rfl rfl
        exact OpR.op' rfl (Yl.sameI (yl_move rfl hx111 ⟨fun _ _ => rfl, rfl⟩))
      · intro L112 w113 hi114
        have hE115 := hi114.ex
        have hE115z := Ex.size hE115
        obtain ⟨_, _, _, hx116, -, -, -, rfl⟩ := hi114.dep 7 21 rfl rfl
        obtain ⟨_, _, _, hx117, -, -, -, rfl⟩ := hi114.dep 8 22 rfl rfl
        exact OpR.op' rfl (Yl.sameI (yl_indexAddrN Try.un33 Try.ty132 rfl hx116 hx117 eA62 (by first | omega | assumption | (simp only [IntKind.wrap_i64] at *; omega)) ⟨fun _ _ => rfl, rfl⟩))
      · intro L118 w119 hi120
        have hE121 := hi120.ex
        have hE121z := Ex.size hE121
        obtain ⟨_, _, _, hx122, -, -, -, rfl⟩ := hi120.dep 9 23 rfl rfl
        exact OpR.op' rfl (Yl.sameI (yl_fieldAddr Try.fd132_2 rfl hx122 ⟨fun _ _ => rfl, rfl⟩))
      · intro L123 w124 hi125
        have hE126 := hi125.ex
        have hE126z := Ex.size hE126
        obtain ⟨_, _, _, hx127, -, -, -, rfl⟩ := hi125.dep 10 24 rfl rfl
        have q128 := Cells.ex eC62 hE126
        exact OpR.op' rfl (Yl.sameI (yl_load1 Try.ty3 rfl hx127 (q128 2 _ rfl) ⟨fun _ _ => rfl, rfl⟩))
      · intro L129 w130 hi131
        have hE132 := hi131.ex
        have hE132z := Ex.size hE132
        obtain ⟨_, _, _, hx133, -, -, -, rfl⟩ := hi131.dep 5 19 rfl rfl
        obtain ⟨_, _, _, hx134, -, -, -, rfl⟩ := hi131.dep 11 25 rfl rfl
        exact OpR.op' rfl (Yl.sameI (yl_sub rfl hx133 hx134 ⟨fun _ _ => rfl, rfl⟩))
      · intro L135 w136 hi137
        have hE138 := hi137.ex
        have hE138z := Ex.size hE138
        obtain ⟨_, _, _, hx139, -, -, -, rfl⟩ := hi137.dep 12 26 rfl rfl
        exact OpR.op' rfl (Yl.sameI (yl_assign rfl hx139 ⟨fun _ _ => rfl, rfl⟩))
      · intro fl143 fh144 L140 w141 hp142
        have hE145 := hp142.ex
        have hE145z := Ex.size hE145
        have hx146 := hp142.old 2 _ rfl rfl
        have hx147 := hp142.old 3 _ rfl rfl
        have hx148 := hp142.old 5 _ rfl rfl
        have hx149 := hp142.old 10 _ rfl rfl
        have hx150 := hp142.old 11 _ rfl rfl
        obtain ⟨_, hx151, rfl⟩ := hp142.new 13 7 rfl rfl
        refine SeqR.done ?_
        refine tn ?_
        refine CW.sub (Sub.cons (d := 2) hx146 (Sub.cons (d := 3) hx147 (Sub.cons (d := 5) hx148 (Sub.cons (d := 7) hx151 (Sub.cons (d := 10) hx149 (Sub.cons (d := 11) hx150 (Sub.nil _))))))) ?_
        refine CW.region ?_
        refine SeqR.d1 rfl rfl rfl (yl_move rfl rfl ?_)
        refine SeqR.d1 rfl rfl rfl (yl_move rfl rfl ?_)
        refine SeqR.d1 rfl rfl rfl (yl_move rfl rfl ?_)
        refine SeqR.d1 rfl rfl rfl (yl_neg rfl rfl ?_)
        refine SeqR.d1 rfl rfl rfl (yl_call Try.en162 rfl (opvs_cons rfl (opvs_cons rfl opvs_nil)) (Cal.mono (c_s_l1Most (IntKind.wrap .i64 (((p_a.Idxs.getD k26 d_Idx).Stage) - ((p_b.Idxs.getD k26 d_Idx).Stage))) (IntKind.wrap .i64 (0 - (IntKind.wrap .i64 (((p_a.Idxs.getD k26 d_Idx).Stage) - ((p_b.Idxs.getD k26 d_Idx).Stage)))))) ?_))
        rintro v153 w152 ⟨rfl, hE154⟩
        have hE154z := Ex.size hE154
        refine SeqR.d1 rfl rfl rfl (yl_add rfl rfl rfl ?_)
        refine SeqR.d1 rfl rfl rfl (yl_assign rfl rfl ?_)
        refine SeqR.done ?_
        refine bn ?_
        refine tn ?_
        refine CW.region ?_
        refine SeqR.d1 rfl rfl rfl (yl_inc rfl rfl rfl (by omega) ?_)
        refine SeqR.d1 rfl rfl rfl (yl_move rfl rfl ?_)
        refine SeqR.done ?_
        refine tn ?_
        have hB155 : B_s_l24Far_0 p_a p_b k26 (x27) = .cont (IntKind.wrap .i64 (x27 + (s_l1Most (IntKind.wrap .i64 (((p_a.Idxs.getD k26 d_Idx).Stage) - ((p_b.Idxs.getD k26 d_Idx).Stage))) (IntKind.wrap .i64 (0 - (IntKind.wrap .i64 (((p_a.Idxs.getD k26 d_Idx).Stage) - ((p_b.Idxs.getD k26 d_Idx).Stage)))))))) := by simp only [B_s_l24Far_0, cond_true, cond_false, loopE_done, loopE_ret]
        have q156 := Box.ex hf52 hE145
        have q157 := Box.ex q156 hE154
        have q158 := RdS.ex good_Str hf53 hE145
        have q159 := RdS.ex good_Str q158 hE154
        have q160 := RdS.ex good_Idx hf54 hE145
        have q161 := RdS.ex good_Idx q160 hE154
        have q162 := Box.ex hf55 hE145
        have q163 := Box.ex q162 hE154
        have q164 := RdS.ex good_Str hf56 hE145
        have q165 := RdS.ex good_Str q164 hE154
        have q166 := RdS.ex good_Idx hf57 hE145
        have q167 := RdS.ex good_Idx q166 hE154
        have q168 := Ex.trans hf58 hE145
        have q169 := Ex.trans q168 hE154
        exact ⟨p_a.Idxs.length - (k26 + 1), by omega, k26 + 1, IntKind.wrap .i64 (x27 + (s_l1Most (IntKind.wrap .i64 (((p_a.Idxs.getD k26 d_Idx).Stage) - ((p_b.Idxs.getD k26 d_Idx).Stage))) (IntKind.wrap .i64 (0 - (IntKind.wrap .i64 (((p_a.Idxs.getD k26 d_Idx).Stage) - ((p_b.Idxs.getD k26 d_Idx).Stage))))))), rfl, hlt60, (by omega), rfl, rfl, rfl, rfl, rfl, q157, q159, q161, q163, q165, q167, q169, (loopM.cont hlt60 hB155).symm.trans hI45⟩
    · skip
      refine CW.seq ?_
      refine CW.region ?_
      refine SeqR.d1 rfl rfl rfl (yl_lss rfl rfl rfl ?_)
      refine SeqR.done ?_
      refine tn ?_
      refine CW.seq ?_
      refine CW.cond_f rfl (lt_f hlt60) ?_
      refine CW.exit ?_
      refine tx ?_
      refine tx ?_
      have hL170 : loopM (B_s_l24Far_0 p_a p_b) (p_a.Idxs.length - 0) 0 (0) = .done (x27) := hI45.symm.trans (loopM.stop hlt60)
      refine bx ?_
      refine tn ?_
      refine CW.seq ?_
      refine CW.region ?_
      refine SeqR.d1 rfl rfl rfl (yl_move rfl rfl ?_)
      refine SeqR.d1 rfl rfl rfl (yl_assign rfl rfl ?_)
      refine SeqR.done ?_
      refine tn ?_
      refine CW.ret ?_
      refine rr rfl (.cons rfl .nil) ?_
      have hM171 : (s_l24Far p_a p_b) = (x27) := by simp only [s_l24Far, hL170, cond_true, cond_false, loopE_done, loopE_ret]
      rw [hM171]
      exact ⟨rfl, hf58⟩
set_option maxRecDepth 100000 in
set_option maxHeartbeats 2000000 in
theorem c_s_NextTo {A1 : Option Addr} {c1 : Nat} {A2 : Option Addr} {c2 : Nat} {A4 : Option Addr} {c4 : Nat} {A5 : Option Addr} {c5 : Nat} {w : World} (p_a : DTable) (p_b : DTable) (h1 : RdS w (Iv 0 w.heap.size) (RF e_Str) 1 A1 p_a.Cols.length c1 p_a.Cols) (h2 : RdS w (Iv 0 w.heap.size) (RF e_Idx) 3 A2 p_a.Idxs.length c2 p_a.Idxs) (h4 : RdS w (Iv 0 w.heap.size) (RF e_Str) 1 A4 p_b.Cols.length c4 p_b.Cols) (h5 : RdS w (Iv 0 w.heap.size) (RF e_Idx) 3 A5 p_b.Idxs.length c5 p_b.Idxs) (o3 : ok_Table p_a) (o6 : ok_Table p_b) : Cal Try.prog 37 #[.agg #[.string (bs (p_a.Name)), .slice A1 p_a.Cols.length c1, .slice A2 p_a.Idxs.length c2], .agg #[.string (bs (p_b.Name)), .slice A4 p_b.Cols.length c4, .slice A5 p_b.Idxs.length c5]] w fun v w' => v = .tuple #[.bool ((s_NextTo p_a p_b).1), .bool ((s_NextTo p_a p_b).2)] ∧ Ex w w' := by
  have hol7 : p_a.Name.length ≤ 1073741824 := o3.1
  have hol8 := o3.2.1.1
  have hol9 := o3.2.2.1
  have hol10 : p_b.Name.length ≤ 1073741824 := o6.1
  have hol11 := o6.2.1.1
  have hol12 := o6.2.2.1
  refine Cal.of (vs := [.agg #[.string (bs (p_a.Name)), .slice A1 p_a.Cols.length c1, .slice A2 p_a.Idxs.length c2], .agg #[.string (bs (p_b.Name)), .slice A4 p_b.Cols.length c4, .slice A5 p_b.Idxs.length c5]]) Try.func37 rfl Try.ntmps37 rfl ?_
  refine CW.seq ?_
  refine CW.region ?_
  refine SeqR.d1 rfl rfl rfl (yl_box (cs := [.string (bs (p_a.Name)), .slice A1 p_a.Cols.length c1, .slice A2 p_a.Idxs.length c2]) rfl rfl rfl ?_)
  intro b13 w14 hs15 hz16 hB17 hE18
  refine SeqR.d1 rfl rfl rfl (yl_box (cs := [.string (bs (p_b.Name)), .slice A4 p_b.Cols.length c4, .slice A5 p_b.Idxs.length c5]) rfl rfl rfl ?_)
  intro b19 w20 hs21 hz22 hB23 hE24
  refine SeqR.d1 rfl rfl rfl (yl_assign rfl rfl ?_)
  refine SeqR.d1 rfl rfl rfl (yl_assign rfl rfl ?_)
  refine SeqR.done ?_
  refine tn ?_
  refine CW.seq ?_
  refine CW.seq ?_
  refine CW.region ?_
  have q25 := Box.ex hB17 hE24
  refine SeqR.d1 rfl rfl rfl (yl_loadN (cs := [.string (bs (p_a.Name)), .slice A1 p_a.Cols.length c1, .slice A2 p_a.Idxs.length c2]) Try.ty35 rfl rfl (q25.cells (n := 3) rfl) rfl ?_)
  have q26 := RdS.ex good_Str h1 hE18
  have q27 := RdS.ex good_Str q26 hE24
  have q28 := RdS.ex good_Idx h2 hE18
  have q29 := RdS.ex good_Idx q28 hE24
  refine SeqR.d1 rfl rfl rfl (yl_call Try.en68 rfl (opvs_cons rfl opvs_nil) (Cal.mono (c_s_GoodTable p_a (RdS.up q27 good_Str) (RdS.up q29 good_Idx) o3) ?_))
  rintro v31 w30 ⟨rfl, hE32⟩
  have hE32z := Ex.size hE32
  refine SeqR.d1 rfl rfl rfl (yl_not rfl rfl ?_)
  refine SeqR.d1 rfl rfl rfl (yl_move rfl rfl ?_)
  refine bcase (s_GoodTable p_a) (fun hb33 => ?_) (fun hb33 => ?_)
  · have hb33p := f_s_GoodTable hb33
    have q34 := Box.ex hB23 hE32
    refine SeqR.y rfl rfl rfl rfl rfl (not_t hb33) (yl_loadN (cs := [.string (bs (p_b.Name)), .slice A4 p_b.Cols.length c4, .slice A5 p_b.Idxs.length c5]) Try.ty35 rfl rfl (q34.cells (n := 3) rfl) rfl ?_)
    have q35 := RdS.ex good_Str h4 hE18
    have q36 := RdS.ex good_Str q35 hE24
    have q37 := RdS.ex good_Str q36 hE32
    have q38 := RdS.ex good_Idx h5 hE18
    have q39 := RdS.ex good_Idx q38 hE24
    have q40 := RdS.ex good_Idx q39 hE32
    refine SeqR.y rfl rfl rfl rfl rfl (not_t hb33) (yl_call Try.en68 rfl (opvs_cons rfl opvs_nil) (Cal.mono (c_s_GoodTable p_b (RdS.up q37 good_Str) (RdS.up q40 good_Idx) o6) ?_))
    rintro v42 w41 ⟨rfl, hE43⟩
    have hE43z := Ex.size hE43
    refine SeqR.y rfl rfl rfl rfl rfl (not_t hb33) (yl_not rfl rfl ?_)
    refine SeqR.d1 rfl rfl rfl (yl_pick_f rfl rfl (not_t hb33) rfl ?_)
    refine SeqR.done ?_
    refine tn ?_
    refine bcase (s_GoodTable p_b) (fun hb44 => ?_) (fun hb44 => ?_)
    · have hb44p := f_s_GoodTable hb44
      refine CW.cond_f rfl (not_t hb44) ?_
      refine CW.skip ?_
      refine tn ?_
      refine CW.seq ?_
      refine CW.region ?_
      have q45 := Box.ex q25 hE32
      have q46 := Box.ex q45 hE43
      refine SeqR.d1 rfl rfl rfl (yl_loadN (cs := [.string (bs (p_a.Name)), .slice A1 p_a.Cols.length c1, .slice A2 p_a.Idxs.length c2]) Try.ty35 rfl rfl (q46.cells (n := 3) rfl) rfl ?_)
      have q47 := Box.ex q34 hE43
      refine SeqR.d1 rfl rfl rfl (yl_loadN (cs := [.string (bs (p_b.Name)), .slice A4 p_b.Cols.length c4, .slice A5 p_b.Idxs.length c5]) Try.ty35 rfl rfl (q47.cells (n := 3) rfl) rfl ?_)
      have q48 := RdS.ex good_Str q27 hE32
      have q49 := RdS.ex good_Str q48 hE43
      have q50 := RdS.ex good_Idx q29 hE32
      have q51 := RdS.ex good_Idx q50 hE43
      have q52 := RdS.ex good_Str q37 hE43
      have q53 := RdS.ex good_Idx q40 hE43
      refine SeqR.d1 rfl rfl rfl (yl_call Try.en92 rfl (opvs_cons rfl (opvs_cons rfl opvs_nil)) (Cal.mono (c_s_l24SameCols p_a p_b (RdS.up q49 good_Str) (RdS.up q51 good_Idx) (RdS.up q52 good_Str) (RdS.up q53 good_Idx) o3 o6) ?_))
      rintro v55 w54 ⟨rfl, hE56⟩
      have hE56z := Ex.size hE56
      refine SeqR.d1 rfl rfl rfl (yl_move rfl rfl ?_)
      refine bcase (s_l24SameCols p_a p_b) (fun hb57 => ?_) (fun hb57 => ?_)
      · have hb57p := f_s_l24SameCols hb57
        have q58 := Box.ex q46 hE56
        refine SeqR.y rfl rfl rfl rfl rfl hb57 (yl_loadN (cs := [.string (bs (p_a.Name)), .slice A1 p_a.Cols.length c1, .slice A2 p_a.Idxs.length c2]) Try.ty35 rfl rfl (q58.cells (n := 3) rfl) rfl ?_)
        have q59 := Box.ex q47 hE56
        refine SeqR.y rfl rfl rfl rfl rfl hb57 (yl_loadN (cs := [.string (bs (p_b.Name)), .slice A4 p_b.Cols.length c4, .slice A5 p_b.Idxs.length c5]) Try.ty35 rfl rfl (q59.cells (n := 3) rfl) rfl ?_)
        have q60 := RdS.ex good_Str q49 hE56
        have q61 := RdS.ex good_Idx q51 hE56
        have q62 := RdS.ex good_Str q52 hE56
        have q63 := RdS.ex good_Idx q53 hE56
        refine SeqR.y rfl rfl rfl rfl rfl hb57 (yl_call Try.en93 rfl (opvs_cons rfl (opvs_cons rfl opvs_nil)) (Cal.mono (c_s_l24Far p_a p_b (RdS.up q60 good_Str) (RdS.up q61 good_Idx) (RdS.up q62 good_Str) (RdS.up q63 good_Idx) o3 o6 (by first | omega | assumption | (simp only [IntKind.wrap_i64] at *; omega))) ?_))
        rintro v65 w64 ⟨rfl, hE66⟩
        have hE66z := Ex.size hE66
        refine SeqR.y rfl rfl rfl rfl rfl hb57 (yl_leq rfl rfl rfl ?_)
        refine SeqR.d1 rfl rfl rfl (yl_pick_t rfl rfl hb57 rfl ?_)
        refine SeqR.d1 rfl rfl rfl (yl_assign rfl rfl ?_)
        refine SeqR.d1 rfl rfl rfl (yl_assign rfl rfl ?_)
        refine SeqR.done ?_
        refine tn ?_
        refine CW.ret ?_
        refine rr rfl (.cons rfl (.cons rfl .nil)) ?_
        have hM67 : (s_NextTo p_a p_b) = ((decide ((s_l24Far p_a p_b) ≤ 1), true)) := by simp only [s_NextTo, hb33, hb44, hb57, cond_true, cond_false, loopE_done, loopE_ret]
        rw [hM67]
        have q68 := Ex.trans (Ex.refl w) hE18
        have q69 := Ex.trans q68 hE24
        have q70 := Ex.trans q69 hE32
        have q71 := Ex.trans q70 hE43
        have q72 := Ex.trans q71 hE56
        have q73 := Ex.trans q72 hE66
        exact ⟨rfl, q73⟩
      · skip
        refine SeqR.z rfl rfl rfl rfl rfl hb57 ?_
        refine SeqR.z rfl rfl rfl rfl rfl hb57 ?_
        refine SeqR.z rfl rfl rfl rfl rfl hb57 ?_
        refine SeqR.z rfl rfl rfl rfl rfl hb57 ?_
        refine SeqR.d1 rfl rfl rfl (yl_pick_f rfl rfl hb57 rfl ?_)
        refine SeqR.d1 rfl rfl rfl (yl_assign rfl rfl ?_)
        refine SeqR.d1 rfl rfl rfl (yl_assign rfl rfl ?_)
        refine SeqR.done ?_
        refine tn ?_
        refine CW.ret ?_
        refine rr rfl (.cons rfl (.cons rfl .nil)) ?_
        have hM74 : (s_NextTo p_a p_b) = ((false, true)) := by simp only [s_NextTo, hb33, hb44, hb57, cond_true, cond_false, loopE_done, loopE_ret]
        rw [hM74]
        have q75 := Ex.trans (Ex.refl w) hE18
        have q76 := Ex.trans q75 hE24
        have q77 := Ex.trans q76 hE32
        have q78 := Ex.trans q77 hE43
        have q79 := Ex.trans q78 hE56
        exact ⟨rfl, q79⟩
    · skip
      refine CW.cond_t rfl (not_f hb44) ?_
      refine CW.seq ?_
      refine CW.region ?_
      refine SeqR.d1 rfl rfl rfl (yl_assign rfl rfl ?_)
      refine SeqR.d1 rfl rfl rfl (yl_assign rfl rfl ?_)
      refine SeqR.done ?_
      refine tn ?_
      refine CW.ret ?_
      refine tr ?_
      refine rr rfl (.cons rfl (.cons rfl .nil)) ?_
      have hM80 : (s_NextTo p_a p_b) = ((false, false)) := by simp only [s_NextTo, hb33, hb44, cond_true, cond_false, loopE_done, loopE_ret]
      rw [hM80]
      have q81 := Ex.trans (Ex.refl w) hE18
      have q82 := Ex.trans q81 hE24
      have q83 := Ex.trans q82 hE32
      have q84 := Ex.trans q83 hE43
      exact ⟨rfl, q84⟩
  · skip
    refine SeqR.z rfl rfl rfl rfl rfl (not_f hb33) ?_
    refine SeqR.z rfl rfl rfl rfl rfl (not_f hb33) ?_
    refine SeqR.z rfl rfl rfl rfl rfl (not_f hb33) ?_
    refine SeqR.d1 rfl rfl rfl (yl_pick_t rfl rfl (not_f hb33) rfl ?_)
    refine SeqR.done ?_
    refine tn ?_
    refine CW.cond_t rfl rfl ?_
    refine CW.seq ?_
    refine CW.region ?_
    refine SeqR.d1 rfl rfl rfl (yl_assign rfl rfl ?_)
    refine SeqR.d1 rfl rfl rfl (yl_assign rfl rfl ?_)
    refine SeqR.done ?_
    refine tn ?_
    refine CW.ret ?_
    refine tr ?_
    refine rr rfl (.cons rfl (.cons rfl .nil)) ?_
    have hM85 : (s_NextTo p_a p_b) = ((false, false)) := by simp only [s_NextTo, hb33, cond_true, cond_false, loopE_done, loopE_ret]
    rw [hM85]
    have q86 := Ex.trans (Ex.refl w) hE18
    have q87 := Ex.trans q86 hE24
    have q88 := Ex.trans q87 hE32
    exact ⟨rfl, q88⟩
set_option maxRecDepth 100000 in
set_option maxHeartbeats 2000000 in
theorem c_i_within {w : World} (p_n : Int) (p_low : Int) (p_high : Int) : Cal Try.prog 129 #[.int .i64 (p_n), .int .i64 (p_low), .int .i64 (p_high)] w fun v w' => v = .bool ((i_within p_n p_low p_high)) ∧ Ex w w' := by
  refine Cal.of (vs := [.int .i64 (p_n), .int .i64 (p_low), .int .i64 (p_high)]) Try.func129 rfl Try.ntmps129 rfl ?_
  refine CW.seq ?_
  refine CW.region ?_
  refine SeqR.d1 rfl rfl rfl (yl_assign rfl rfl ?_)
  refine SeqR.done ?_
  refine tn ?_
  refine CW.seq ?_
  refine CW.region ?_
  refine SeqR.d1 rfl rfl rfl (yl_move rfl rfl ?_)
  refine SeqR.d1 rfl rfl rfl (yl_move rfl rfl ?_)
  refine SeqR.d1 rfl rfl rfl (yl_geq rfl rfl rfl ?_)
  refine SeqR.d1 rfl rfl rfl (yl_move rfl rfl ?_)
  refine bcase (decide (p_low ≤ p_n)) (fun hb1 => ?_) (fun hb1 => ?_)
  · have hb1p := dec_t hb1
    refine SeqR.y rfl rfl rfl rfl rfl hb1 (yl_move rfl rfl ?_)
    refine SeqR.y rfl rfl rfl rfl rfl hb1 (yl_move rfl rfl ?_)
    refine SeqR.y rfl rfl rfl rfl rfl hb1 (yl_leq rfl rfl rfl ?_)
    refine SeqR.d1 rfl rfl rfl (yl_pick_t rfl rfl hb1 rfl ?_)
    refine SeqR.d1 rfl rfl rfl (yl_assign rfl rfl ?_)
    refine SeqR.done ?_
    refine tn ?_
    refine CW.ret ?_
    refine rr rfl (.cons rfl .nil) ?_
    have hM2 : (i_within p_n p_low p_high) = (decide (p_n ≤ p_high)) := by simp only [i_within, hb1, cond_true, cond_false, loopE_done, loopE_ret]
    rw [hM2]
    exact ⟨rfl, (Ex.refl w)⟩
  · have hb1p := dec_f hb1
    refine SeqR.z rfl rfl rfl rfl rfl hb1 ?_
    refine SeqR.z rfl rfl rfl rfl rfl hb1 ?_
    refine SeqR.z rfl rfl rfl rfl rfl hb1 ?_
    refine SeqR.d1 rfl rfl rfl (yl_pick_f rfl rfl hb1 rfl ?_)
    refine SeqR.d1 rfl rfl rfl (yl_assign rfl rfl ?_)
    refine SeqR.done ?_
    refine tn ?_
    refine CW.ret ?_
    refine rr rfl (.cons rfl .nil) ?_
    have hM3 : (i_within p_n p_low p_high) = (false) := by simp only [i_within, hb1, cond_true, cond_false, loopE_done, loopE_ret]
    rw [hM3]
    exact ⟨rfl, (Ex.refl w)⟩
set_option maxRecDepth 100000 in
set_option maxHeartbeats 2000000 in
theorem c_i_isStage {w : World} (p_stage : Int) : Cal Try.prog 108 #[.int .i64 (p_stage)] w fun v w' => v = .bool ((i_isStage p_stage)) ∧ Ex w w' := by
  refine Cal.of (vs := [.int .i64 (p_stage)]) Try.func108 rfl Try.ntmps108 rfl ?_
  refine CW.seq ?_
  refine CW.region ?_
  refine SeqR.d1 rfl rfl rfl (yl_assign rfl rfl ?_)
  refine SeqR.done ?_
  refine tn ?_
  refine CW.seq ?_
  refine CW.region ?_
  refine SeqR.d1 rfl rfl rfl (yl_move rfl rfl ?_)
  refine SeqR.d1 rfl rfl rfl (yl_call Try.en129 rfl (opvs_cons rfl (opvs_cons rfl (opvs_cons rfl opvs_nil))) (Cal.mono (c_i_within p_stage 0 3) ?_))
  rintro v2 w1 ⟨rfl, hE3⟩
  have hE3z := Ex.size hE3
  refine SeqR.d1 rfl rfl rfl (yl_assign rfl rfl ?_)
  refine SeqR.done ?_
  refine tn ?_
  refine CW.ret ?_
  refine rr rfl (.cons rfl .nil) ?_
  have hM4 : (i_isStage p_stage) = ((i_within p_stage 0 3)) := by simp only [i_isStage, cond_true, cond_false, loopE_done, loopE_ret]
  rw [hM4]
  have q5 := Ex.trans (Ex.refl w) hE3
  exact ⟨rfl, q5⟩
set_option maxRecDepth 100000 in
set_option maxHeartbeats 2000000 in
theorem c_i_areLetters {w : World} (p_s : Str) (p_most : Int) (o1 : okS p_s) : Cal Try.prog 142 #[.string (bs (p_s)), .int .i64 (p_most)] w fun v w' => v = .bool ((i_areLetters p_s p_most)) ∧ Ex w w' := by
  have hol2 : p_s.length ≤ 1073741824 := o1
  refine Cal.of (vs := [.string (bs (p_s)), .int .i64 (p_most)]) Try.func142 rfl Try.ntmps142 rfl ?_
  refine CW.seq ?_
  refine CW.region ?_
  refine SeqR.d1 rfl rfl rfl (yl_assign rfl rfl ?_)
  refine SeqR.done ?_
  refine tn ?_
  refine CW.seq ?_
  refine CW.seq ?_
  refine CW.region ?_
  refine SeqR.d1 rfl rfl rfl (yl_move rfl rfl ?_)
  refine SeqR.d1 rfl rfl rfl (yl_slen Try.un9 (a := p_s) rfl rfl ?_)
  refine SeqR.d1 rfl rfl rfl (yl_move rfl rfl ?_)
  refine SeqR.done ?_
  refine tn ?_
  refine CW.block ?_
  refine CW.loop (fun m4 L5 w6 => ∃ (k3 : Nat), m4 = p_s.length - k3 ∧ k3 ≤ p_s.length ∧ w.heap.size ≤ w6.heap.size ∧ lkp L5 0 = some (.string (bs (p_s))) ∧ lkp L5 1 = some (.int .i64 (p_most)) ∧ lkp L5 7 = some (.int .i64 ((p_s.length : Int))) ∧ lkp L5 8 = some (.int .i64 ((k3 : Int))) ∧ Ex w w6 ∧ loopM (B_i_areLetters_0 p_s p_most) (p_s.length - k3) k3 () = loopM (B_i_areLetters_0 p_s p_most) (p_s.length - 0) 0 ()) (p_s.length - 0) ?_ ?_
  · exact ⟨0, rfl, (by omega), Nat.le_refl _, rfl, rfl, rfl, rfl, (Ex.refl w), rfl⟩
  · rintro m7 L8 w9 ⟨k3, rfl, hk10, hsz12, hl13, hl14, hl15, hl16, hf17, hI11⟩
    refine CW.sub (Sub.cons hl13 (Sub.cons hl14 (Sub.cons hl15 (Sub.cons hl16 (Sub.nil _))))) ?_
    have hf17z := Ex.size hf17
    have hbg18 : p_s.length ≤ 1073741824 := o1
    rcases Nat.lt_or_ge k3 p_s.length with hlt19 | hlt19
    · skip
      refine CW.seq ?_
      refine CW.region ?_
      refine SeqR.d1 rfl rfl rfl (yl_lss rfl rfl rfl ?_)
      refine SeqR.done ?_
      refine tn ?_
      refine CW.seq ?_
      refine CW.cond_t rfl (lt_t hlt19) ?_
      refine CW.skip ?_
      refine tn ?_
      refine CW.seq ?_
      refine CW.block ?_
      refine CW.seq ?_
      refine CW.region ?_
      refine SeqR.d1 rfl rfl rfl (yl_move rfl rfl ?_)
      refine SeqR.d1 rfl rfl rfl (yl_assign rfl rfl ?_)
      refine SeqR.done ?_
      refine tn ?_
      refine CW.seq ?_
      refine CW.region ?_
      refine SeqR.d1 rfl rfl rfl (yl_move rfl rfl ?_)
      refine SeqR.d1 rfl rfl rfl (yl_move rfl rfl ?_)
      refine SeqR.d1 rfl rfl rfl (yl_sindexN Try.un9 (a := p_s) rfl rfl rfl (by first | omega | assumption | (simp only [IntKind.wrap_i64] at *; omega)) ?_)
      refine SeqR.d1 rfl rfl rfl (yl_lss rfl rfl rfl ?_)
      refine SeqR.d1 rfl rfl rfl (yl_move rfl rfl ?_)
      refine bcase (decide (((p_s.getD k3 0).toNat : Int) < 97)) (fun hb20 => ?_) (fun hb20 => ?_)
      · have hb20p := dec_t hb20
        refine SeqR.z rfl rfl rfl rfl rfl hb20 ?_
        refine SeqR.z rfl rfl rfl rfl rfl hb20 ?_
        refine SeqR.z rfl rfl rfl rfl rfl hb20 ?_
        refine SeqR.z rfl rfl rfl rfl rfl hb20 ?_
        refine SeqR.d1 rfl rfl rfl (yl_pick_t rfl rfl hb20 rfl ?_)
        refine SeqR.done ?_
        refine tn ?_
        refine CW.cond_t rfl rfl ?_
        refine CW.seq ?_
        refine CW.region ?_
        refine SeqR.d1 rfl rfl rfl (yl_assign rfl rfl ?_)
        refine SeqR.done ?_
        refine tn ?_
        refine CW.ret ?_
        refine br ?_
        refine tr ?_
        refine tr ?_
        have hB22 : B_i_areLetters_0 p_s p_most k3 () = .ret false := by simp only [B_i_areLetters_0, hb20, cond_true, cond_false, loopE_done, loopE_ret]
        have hL21 : loopM (B_i_areLetters_0 p_s p_most) (p_s.length - 0) 0 () = .ret false := hI11.symm.trans (loopM.ret hlt19 hB22)
        refine br ?_
        refine tr ?_
        refine rr rfl (.cons rfl .nil) ?_
        have hM23 : (i_areLetters p_s p_most) = (false) := by simp only [i_areLetters, hb20, hL21, cond_true, cond_false, loopE_done, loopE_ret]
        rw [hM23]
        exact ⟨rfl, hf17⟩
      · have hb20p := dec_f hb20
        refine SeqR.y rfl rfl rfl rfl rfl hb20 (yl_move rfl rfl ?_)
        refine SeqR.y rfl rfl rfl rfl rfl hb20 (yl_move rfl rfl ?_)
        refine SeqR.y rfl rfl rfl rfl rfl hb20 (yl_sindexN Try.un9 (a := p_s) rfl rfl rfl (by first | omega | assumption | (simp only [IntKind.wrap_i64] at *; omega)) ?_)
        refine SeqR.y rfl rfl rfl rfl rfl hb20 (yl_gtr rfl rfl rfl ?_)
        refine SeqR.d1 rfl rfl rfl (yl_pick_f rfl rfl hb20 rfl ?_)
        refine SeqR.done ?_
        refine tn ?_
        refine bcase (decide (122 < ((p_s.getD k3 0).toNat : Int))) (fun hb24 => ?_) (fun hb24 => ?_)
        · have hb24p := dec_t hb24
          refine CW.cond_t rfl hb24 ?_
          refine CW.seq ?_
          refine CW.region ?_
          refine SeqR.d1 rfl rfl rfl (yl_assign rfl rfl ?_)
          refine SeqR.done ?_
          refine tn ?_
          refine CW.ret ?_
          refine br ?_
          refine tr ?_
          refine tr ?_
          have hB26 : B_i_areLetters_0 p_s p_most k3 () = .ret false := by simp only [B_i_areLetters_0, hb20, hb24, cond_true, cond_false, loopE_done, loopE_ret]
          have hL25 : loopM (B_i_areLetters_0 p_s p_most) (p_s.length - 0) 0 () = .ret false := hI11.symm.trans (loopM.ret hlt19 hB26)
          refine br ?_
          refine tr ?_
          refine rr rfl (.cons rfl .nil) ?_
          have hM27 : (i_areLetters p_s p_most) = (false) := by simp only [i_areLetters, hb20, hb24, hL25, cond_true, cond_false, loopE_done, loopE_ret]
          rw [hM27]
          exact ⟨rfl, hf17⟩
        · have hb24p := dec_f hb24
          refine CW.cond_f rfl hb24 ?_
          refine CW.skip ?_
          refine bn ?_
          refine tn ?_
          refine CW.region ?_
          refine SeqR.d1 rfl rfl rfl (yl_inc rfl rfl rfl (by omega) ?_)
          refine SeqR.d1 rfl rfl rfl (yl_move rfl rfl ?_)
          refine SeqR.done ?_
          refine tn ?_
          have hB28 : B_i_areLetters_0 p_s p_most k3 () = .cont () := by simp only [B_i_areLetters_0, hb20, hb24, cond_true, cond_false, loopE_done, loopE_ret]
          exact ⟨p_s.length - (k3 + 1), by omega, k3 + 1, rfl, hlt19, (by omega), rfl, rfl, rfl, rfl, hf17, (loopM.cont hlt19 hB28).symm.trans hI11⟩
    · skip
      refine CW.seq ?_
      refine CW.region ?_
      refine SeqR.d1 rfl rfl rfl (yl_lss rfl rfl rfl ?_)
      refine SeqR.done ?_
      refine tn ?_
      refine CW.seq ?_
      refine CW.cond_f rfl (lt_f hlt19) ?_
      refine CW.exit ?_
      refine tx ?_
      refine tx ?_
      have hL29 : loopM (B_i_areLetters_0 p_s p_most) (p_s.length - 0) 0 () = .done () := hI11.symm.trans (loopM.stop hlt19)
      refine bx ?_
      refine tn ?_
      refine CW.seq ?_
      refine CW.region ?_
      refine SeqR.d1 rfl rfl rfl (yl_move rfl rfl ?_)
      refine SeqR.d1 rfl rfl rfl (yl_slen Try.un9 (a := p_s) rfl rfl ?_)
      refine SeqR.d1 rfl rfl rfl (yl_move rfl rfl ?_)
      refine SeqR.d1 rfl rfl rfl (yl_call Try.en129 rfl (opvs_cons rfl (opvs_cons rfl (opvs_cons rfl opvs_nil))) (Cal.mono (c_i_within (p_s.length : Int) 1 p_most) ?_))
      rintro v31 w30 ⟨rfl, hE32⟩
      have hE32z := Ex.size hE32
      refine SeqR.d1 rfl rfl rfl (yl_assign rfl rfl ?_)
      refine SeqR.done ?_
      refine tn ?_
      refine CW.ret ?_
      refine rr rfl (.cons rfl .nil) ?_
      have hM33 : (i_areLetters p_s p_most) = ((i_within (p_s.length : Int) 1 p_most)) := by simp only [i_areLetters, hL29, cond_true, cond_false, loopE_done, loopE_ret]
      rw [hM33]
      have q34 := Ex.trans hf17 hE32
      exact ⟨rfl, q34⟩
set_option maxRecDepth 100000 in
set_option maxHeartbeats 2000000 in
theorem c_g_slices_Index_string {A1 : Option Addr} {c1 : Nat} {w : World} (p_s : List Str) (p_v : Str) (h1 : RdS w (Iv 0 w.heap.size) (RF e_Str) 1 A1 p_s.length c1 p_s) (o2 : (okL okS) p_s) (o3 : okS p_v) : Cal Try.prog 186 #[.slice A1 p_s.length c1, .string (bs (p_v))] w fun v w' => v = .int .i64 ((g_slices_Index_string p_s p_v)) ∧ Ex w w' := by
  have hol4 := o2.1
  have hol5 : p_v.length ≤ 1073741824 := o3
  refine Cal.of (vs := [.slice A1 p_s.length c1, .string (bs (p_v))]) Try.func186 rfl Try.ntmps186 rfl ?_
  refine CW.seq ?_
  refine CW.region ?_
  refine SeqR.d1 rfl rfl rfl (yl_assign rfl rfl ?_)
  refine SeqR.done ?_
  refine tn ?_
  refine CW.seq ?_
  refine CW.seq ?_
  refine CW.region ?_
  refine SeqR.d1 rfl rfl rfl (yl_move rfl rfl ?_)
  refine SeqR.d1 rfl rfl rfl (yl_len Try.un22 rfl rfl ?_)
  refine SeqR.d1 rfl rfl rfl (yl_move rfl rfl ?_)
  refine SeqR.done ?_
  refine tn ?_
  refine CW.block ?_
  refine CW.loop (fun m7 L8 w9 => ∃ (k6 : Nat), m7 = p_s.length - k6 ∧ k6 ≤ p_s.length ∧ w.heap.size ≤ w9.heap.size ∧ lkp L8 0 = some (.slice A1 p_s.length c1) ∧ lkp L8 1 = some (.string (bs (p_v))) ∧ lkp L8 7 = some (.int .i64 ((p_s.length : Int))) ∧ lkp L8 8 = some (.int .i64 ((k6 : Int))) ∧ RdS w9 (Iv 0 w.heap.size) (RF e_Str) 1 A1 p_s.length c1 p_s ∧ Ex w w9 ∧ loopM (B_g_slices_Index_string_0 p_s p_v) (p_s.length - k6) k6 () = loopM (B_g_slices_Index_string_0 p_s p_v) (p_s.length - 0) 0 ()) (p_s.length - 0) ?_ ?_
  · exact ⟨0, rfl, (by omega), Nat.le_refl _, rfl, rfl, rfl, rfl, h1, (Ex.refl w), rfl⟩
  · rintro m10 L11 w12 ⟨k6, rfl, hk13, hsz15, hl16, hl17, hl18, hl19, hf20, hf21, hI14⟩
    refine CW.sub (Sub.cons hl16 (Sub.cons hl17 (Sub.cons hl18 (Sub.cons hl19 (Sub.nil _))))) ?_
    have hf21z := Ex.size hf21
    have hbg22 := RdS.big hf20
    rcases Nat.lt_or_ge k6 p_s.length with hlt23 | hlt23
    · skip
      refine CW.seq ?_
      refine CW.region ?_
      refine SeqR.d1 rfl rfl rfl (yl_lss rfl rfl rfl ?_)
      refine SeqR.done ?_
      refine tn ?_
      refine CW.seq ?_
      refine CW.cond_t rfl (lt_t hlt23) ?_
      refine CW.skip ?_
      refine tn ?_
      refine CW.seq ?_
      refine CW.block ?_
      refine CW.seq ?_
      refine CW.region ?_
      refine SeqR.d1 rfl rfl rfl (yl_move rfl rfl ?_)
      refine SeqR.d1 rfl rfl rfl (yl_assign rfl rfl ?_)
      refine SeqR.done ?_
      refine tn ?_
      refine CW.seq ?_
      refine CW.region ?_
      refine SeqR.d1 rfl rfl rfl (yl_move rfl rfl ?_)
      refine SeqR.d1 rfl rfl rfl (yl_move rfl rfl ?_)
      refine SeqR.d1 rfl rfl rfl (yl_move rfl rfl ?_)
      obtain ⟨eb24, eo24, ec24, eA24, eS24, ebl24, el24, eR24, eC24⟩ := RdS.atD hf20 d_Str (i := k6) (by first | omega | assumption)
      obtain rfl := eR24
      have eC24 : Cells w12 eb24 (eo24 + k6 * 1) [.string (bs ((p_s.getD k6 d_Str)))] := eC24
      refine SeqR.d1 rfl rfl rfl (yl_indexAddrN Try.un22 Try.ty9 rfl rfl rfl eA24 (by first | omega | assumption | (simp only [IntKind.wrap_i64] at *; omega)) ?_)
      refine SeqR.d1 rfl rfl rfl (yl_load1 Try.ty9 rfl rfl (eC24 0 _ rfl) ?_)
      refine SeqR.d1 rfl rfl rfl (yl_seql (a := p_v) (b := (p_s.getD k6 d_Str)) rfl rfl rfl ?_)
      refine SeqR.done ?_
      refine tn ?_
      refine bcase (p_v == (p_s.getD k6 d_Str)) (fun hb25 => ?_) (fun hb25 => ?_)
      · skip
        refine CW.cond_t rfl hb25 ?_
        refine CW.seq ?_
        refine CW.region ?_
        refine SeqR.d1 rfl rfl rfl (yl_move rfl rfl ?_)
        refine SeqR.d1 rfl rfl rfl (yl_assign rfl rfl ?_)
        refine SeqR.done ?_
        refine tn ?_
        refine CW.ret ?_
        refine br ?_
        refine tr ?_
        refine tr ?_
        have hB27 : B_g_slices_Index_string_0 p_s p_v k6 () = .ret (k6 : Int) := by simp only [B_g_slices_Index_string_0, hb25, cond_true, cond_false, loopE_done, loopE_ret]
        have hL26 : loopM (B_g_slices_Index_string_0 p_s p_v) (p_s.length - 0) 0 () = .ret (k6 : Int) := hI14.symm.trans (loopM.ret hlt23 hB27)
        refine br ?_
        refine tr ?_
        refine rr rfl (.cons rfl .nil) ?_
        have hM28 : (g_slices_Index_string p_s p_v) = ((k6 : Int)) := by simp only [g_slices_Index_string, hb25, hL26, cond_true, cond_false, loopE_done, loopE_ret]
        rw [hM28]
        exact ⟨rfl, hf21⟩
      · skip
        refine CW.cond_f rfl hb25 ?_
        refine CW.skip ?_
        refine bn ?_
        refine tn ?_
        refine CW.region ?_
        refine SeqR.d1 rfl rfl rfl (yl_inc rfl rfl rfl (by omega) ?_)
        refine SeqR.d1 rfl rfl rfl (yl_move rfl rfl ?_)
        refine SeqR.done ?_
        refine tn ?_
        have hB29 : B_g_slices_Index_string_0 p_s p_v k6 () = .cont () := by simp only [B_g_slices_Index_string_0, hb25, cond_true, cond_false, loopE_done, loopE_ret]
        exact ⟨p_s.length - (k6 + 1), by omega, k6 + 1, rfl, hlt23, (by omega), rfl, rfl, rfl, rfl, hf20, hf21, (loopM.cont hlt23 hB29).symm.trans hI14⟩
    · skip
      refine CW.seq ?_
      refine CW.region ?_
      refine SeqR.d1 rfl rfl rfl (yl_lss rfl rfl rfl ?_)
      refine SeqR.done ?_
      refine tn ?_
      refine CW.seq ?_
      refine CW.cond_f rfl (lt_f hlt23) ?_
      refine CW.exit ?_
      refine tx ?_
      refine tx ?_
      have hL30 : loopM (B_g_slices_Index_string_0 p_s p_v) (p_s.length - 0) 0 () = .done () := hI14.symm.trans (loopM.stop hlt23)
      refine bx ?_
      refine tn ?_
      refine CW.seq ?_
      refine CW.region ?_
      refine SeqR.d1 rfl rfl rfl (yl_assign rfl rfl ?_)
      refine SeqR.done ?_
      refine tn ?_
      refine CW.ret ?_
      refine rr rfl (.cons rfl .nil) ?_
      have hM31 : (g_slices_Index_string p_s p_v) = (-1) := by simp only [g_slices_Index_string, hL30, cond_true, cond_false, loopE_done, loopE_ret]
      rw [hM31]
      exact ⟨rfl, hf21⟩
set_option maxRecDepth 100000 in
set_option maxHeartbeats 2000000 in
theorem c_g_slices_Contains_string {A1 : Option Addr} {c1 : Nat} {w : World} (p_s : List Str) (p_v : Str) (h1 : RdS w (Iv 0 w.heap.size) (RF e_Str) 1 A1 p_s.length c1 p_s) (o2 : (okL okS) p_s) (o3 : okS p_v) : Cal Try.prog 143 #[.slice A1 p_s.length c1, .string (bs (p_v))] w fun v w' => v = .bool ((g_slices_Contains_string p_s p_v)) ∧ Ex w w' := by
  have hol4 := o2.1
  have hol5 : p_v.length ≤ 1073741824 := o3
  refine Cal.of (vs := [.slice A1 p_s.length c1, .string (bs (p_v))]) Try.func143 rfl Try.ntmps143 rfl ?_
  refine CW.seq ?_
  refine CW.region ?_
  refine SeqR.d1 rfl rfl rfl (yl_assign rfl rfl ?_)
  refine SeqR.done ?_
  refine tn ?_
  refine CW.seq ?_
  refine CW.region ?_
  refine SeqR.d1 rfl rfl rfl (yl_move rfl rfl ?_)
  refine SeqR.d1 rfl rfl rfl (yl_move rfl rfl ?_)
  refine SeqR.d1 rfl rfl rfl (yl_call Try.en186 rfl (opvs_cons rfl (opvs_cons rfl opvs_nil)) (Cal.mono (c_g_slices_Index_string p_s p_v (RdS.up h1 good_Str) o2 o3) ?_))
  rintro v7 w6 ⟨rfl, hE8⟩
  have hE8z := Ex.size hE8
  refine SeqR.d1 rfl rfl rfl (yl_geq rfl rfl rfl ?_)
  refine SeqR.d1 rfl rfl rfl (yl_assign rfl rfl ?_)
  refine SeqR.done ?_
  refine tn ?_
  refine CW.ret ?_
  refine rr rfl (.cons rfl .nil) ?_
  have hM9 : (g_slices_Contains_string p_s p_v) = (decide (0 ≤ (g_slices_Index_string p_s p_v))) := by simp only [g_slices_Contains_string, cond_true, cond_false, loopE_done, loopE_ret]
  rw [hM9]
  have q10 := Ex.trans (Ex.refl w) hE8
  exact ⟨rfl, q10⟩
set_option maxRecDepth 100000 in
set_option maxHeartbeats 2000000 in
theorem c_i_GoodTable {A1 : Option Addr} {c1 : Nat} {A2 : Option Addr} {c2 : Nat} {w : World} (p_0 : DTable) (h1 : RdS w (Iv 0 w.heap.size) (RF e_Str) 1 A1 p_0.Cols.length c1 p_0.Cols) (h2 : RdS w (Iv 0 w.heap.size) (RF e_Idx) 3 A2 p_0.Idxs.length c2 p_0.Idxs) (o3 : ok_Table p_0) : Cal Try.prog 72 #[.agg #[.string (bs (p_0.Name)), .slice A1 p_0.Cols.length c1, .slice A2 p_0.Idxs.length c2]] w fun v w' => v = .bool ((i_GoodTable p_0)) ∧ Ex w w' := by
  have hol4 : p_0.Name.length ≤ 1073741824 := o3.1
  have hol5 := o3.2.1.1
  have hol6 := o3.2.2.1
  refine Cal.of (vs := [.agg #[.string (bs (p_0.Name)), .slice A1 p_0.Cols.length c1, .slice A2 p_0.Idxs.length c2]]) Try.func72 rfl Try.ntmps72 rfl ?_
  refine CW.seq ?_
  refine CW.region ?_
  refine SeqR.d1 rfl rfl rfl (yl_box (cs := [.string (bs (p_0.Name)), .slice A1 p_0.Cols.length c1, .slice A2 p_0.Idxs.length c2]) rfl rfl rfl ?_)
  intro b7 w8 hs9 hz10 hB11 hE12
  refine SeqR.d1 rfl rfl rfl (yl_assign rfl rfl ?_)
  refine SeqR.done ?_
  refine tn ?_
  refine CW.seq ?_
  refine CW.seq ?_
  refine CW.region ?_
  refine SeqR.d1 rfl rfl rfl (yl_fieldAddr Try.fd35_0 rfl rfl ?_)
  refine SeqR.d1 rfl rfl rfl (yl_load1 Try.ty9 rfl rfl ((hB11.cell 0).trans rfl) ?_)
  refine SeqR.d1 rfl rfl rfl (yl_call Try.en142 rfl (opvs_cons rfl (opvs_cons rfl opvs_nil)) (Cal.mono (c_i_areLetters p_0.Name 1 o3.1) ?_))
  rintro v14 w13 ⟨rfl, hE15⟩
  have hE15z := Ex.size hE15
  refine SeqR.d1 rfl rfl rfl (yl_not rfl rfl ?_)
  refine SeqR.d1 rfl rfl rfl (yl_move rfl rfl ?_)
  refine bcase (i_areLetters p_0.Name 1) (fun hb16 => ?_) (fun hb16 => ?_)
  · skip
    refine SeqR.y rfl rfl rfl rfl rfl (not_t hb16) (yl_fieldAddr Try.fd35_1 rfl rfl ?_)
    have q17 := Box.ex hB11 hE15
    refine SeqR.y rfl rfl rfl rfl rfl (not_t hb16) (yl_load1 Try.ty22 rfl rfl ((q17.cell 1).trans rfl) ?_)
    refine SeqR.y rfl rfl rfl rfl rfl (not_t hb16) (yl_len Try.un22 rfl rfl ?_)
    refine SeqR.y rfl rfl rfl rfl rfl (not_t hb16) (yl_call Try.en129 rfl (opvs_cons rfl (opvs_cons rfl (opvs_cons rfl opvs_nil))) (Cal.mono (c_i_within (p_0.Cols.length : Int) 2 4) ?_))
    rintro v19 w18 ⟨rfl, hE20⟩
    have hE20z := Ex.size hE20
    refine SeqR.y rfl rfl rfl rfl rfl (not_t hb16) (yl_not rfl rfl ?_)
    refine SeqR.d1 rfl rfl rfl (yl_pick_f rfl rfl (not_t hb16) rfl ?_)
    refine SeqR.d1 rfl rfl rfl (yl_move rfl rfl ?_)
    refine bcase (i_within (p_0.Cols.length : Int) 2 4) (fun hb21 => ?_) (fun hb21 => ?_)
    · have hb21p := f_within hb21
      refine SeqR.y rfl rfl rfl rfl rfl (not_t hb21) (yl_fieldAddr Try.fd35_2 rfl rfl ?_)
      have q22 := Box.ex q17 hE20
      refine SeqR.y rfl rfl rfl rfl rfl (not_t hb21) (yl_load1 Try.ty33 rfl rfl ((q22.cell 2).trans rfl) ?_)
      refine SeqR.y rfl rfl rfl rfl rfl (not_t hb21) (yl_len Try.un33 rfl rfl ?_)
      refine SeqR.y rfl rfl rfl rfl rfl (not_t hb21) (yl_gtr rfl rfl rfl ?_)
      refine SeqR.d1 rfl rfl rfl (yl_pick_f rfl rfl (not_t hb21) rfl ?_)
      refine SeqR.done ?_
      refine tn ?_
      refine bcase (decide (3 < (p_0.Idxs.length : Int))) (fun hb23 => ?_) (fun hb23 => ?_)
      · have hb23p := dec_t hb23
        refine CW.cond_t rfl hb23 ?_
        refine CW.seq ?_
        refine CW.region ?_
        refine SeqR.d1 rfl rfl rfl (yl_assign rfl rfl ?_)
        refine SeqR.done ?_
        refine tn ?_
        refine CW.ret ?_
        refine tr ?_
        refine rr rfl (.cons rfl .nil) ?_
        have hM24 : (i_GoodTable p_0) = (false) := by simp only [i_GoodTable, hb16, hb21, hb23, cond_true, cond_false, loopE_done, loopE_ret]
        rw [hM24]
        have q25 := Ex.trans (Ex.refl w) hE12
        have q26 := Ex.trans q25 hE15
        have q27 := Ex.trans q26 hE20
        exact ⟨rfl, q27⟩
      · have hb23p := dec_f hb23
        refine CW.cond_f rfl hb23 ?_
        refine CW.skip ?_
        refine tn ?_
        refine CW.seq ?_
        refine CW.seq ?_
        refine CW.region ?_
        refine SeqR.d1 rfl rfl rfl (yl_fieldAddr Try.fd35_1 rfl rfl ?_)
        refine SeqR.d1 rfl rfl rfl (yl_load1 Try.ty22 rfl rfl ((q22.cell 1).trans rfl) ?_)
        refine SeqR.d1 rfl rfl rfl (yl_len Try.un22 rfl rfl ?_)
        refine SeqR.d1 rfl rfl rfl (yl_move rfl rfl ?_)
        refine SeqR.done ?_
        refine tn ?_
        refine CW.block ?_
        have q32 := RdS.ex good_Str h1 hE12
        have q33 := RdS.ex good_Str q32 hE15
        have q34 := RdS.ex good_Str q33 hE20
        have q35 := RdS.ex good_Idx h2 hE12
        have q36 := RdS.ex good_Idx q35 hE15
        have q37 := RdS.ex good_Idx q36 hE20
        have q38 := Ex.trans (Ex.refl w) hE12
        have q39 := Ex.trans q38 hE15
        have q40 := Ex.trans q39 hE20
        refine CW.loop (fun m29 L30 w31 => ∃ (k28 : Nat), m29 = p_0.Cols.length - k28 ∧ k28 ≤ p_0.Cols.length ∧ w18.heap.size ≤ w31.heap.size ∧ lkp L30 1 = some (.pointer (some ⟨b7, 0, none⟩)) ∧ lkp L30 25 = some (.slice A1 p_0.Cols.length c1) ∧ lkp L30 26 = some (.int .i64 ((p_0.Cols.length : Int))) ∧ lkp L30 27 = some (.int .i64 ((k28 : Int))) ∧ Box w31 b7 35 [.string (bs (p_0.Name)), .slice A1 p_0.Cols.length c1, .slice A2 p_0.Idxs.length c2] ∧ RdS w31 (Iv 0 w.heap.size) (RF e_Str) 1 A1 p_0.Cols.length c1 p_0.Cols ∧ RdS w31 (Iv 0 w.heap.size) (RF e_Idx) 3 A2 p_0.Idxs.length c2 p_0.Idxs ∧ Ex w w31 ∧ loopM (B_i_GoodTable_0 p_0) (p_0.Cols.length - k28) k28 () = loopM (B_i_GoodTable_0 p_0) (p_0.Cols.length - 0) 0 ()) (p_0.Cols.length - 0) ?_ ?_
        · exact ⟨0, rfl, (by omega), Nat.le_refl _, rfl, rfl, rfl, rfl, q22, q34, q37, q40, rfl⟩
        · rintro m41 L42 w43 ⟨k28, rfl, hk44, hsz46, hl47, hl48, hl49, hl50, hf51, hf52, hf53, hf54, hI45⟩
          refine CW.sub (Sub.cons hl47 (Sub.cons hl48 (Sub.cons hl49 (Sub.cons hl50 (Sub.nil _))))) ?_
          have hf51z := Box.lt hf51
          have hf54z := Ex.size hf54
          have hbg55 := RdS.big hf52
          rcases Nat.lt_or_ge k28 p_0.Cols.length with hlt56 | hlt56
          · skip
            refine CW.seq ?_
            refine CW.region ?_
            refine SeqR.d1 rfl rfl rfl (yl_lss rfl rfl rfl ?_)
            refine SeqR.done ?_
            refine tn ?_
            refine CW.seq ?_
            refine CW.cond_t rfl (lt_t hlt56) ?_
            refine CW.skip ?_
            refine tn ?_
            refine CW.seq ?_
            refine CW.block ?_
            refine CW.seq ?_
            refine CW.region ?_
            refine SeqR.d1 rfl rfl rfl (yl_move rfl rfl ?_)
            obtain ⟨eb57, eo57, ec57, eA57, eS57, ebl57, el57, eR57, eC57⟩ := RdS.atD hf52 d_Str (i := k28) (by first | omega | assumption)
            obtain rfl := eR57
            have eC57 : Cells w43 eb57 (eo57 + k28 * 1) [.string (bs ((p_0.Cols.getD k28 d_Str)))] := eC57
            refine SeqR.d1 rfl rfl rfl (yl_indexAddrN Try.un22 Try.ty9 rfl rfl rfl eA57 (by first | omega | assumption | (simp only [IntKind.wrap_i64] at *; omega)) ?_)
            refine SeqR.d1 rfl rfl rfl (yl_load1 Try.ty9 rfl rfl (eC57 0 _ rfl) ?_)
            refine SeqR.d1 rfl rfl rfl (yl_assign rfl rfl ?_)
            refine SeqR.d1 rfl rfl rfl (yl_assign rfl rfl ?_)
            refine SeqR.done ?_
            refine tn ?_
            refine CW.seq ?_
            refine CW.region ?_
            refine SeqR.d1 rfl rfl rfl (yl_move rfl rfl ?_)
            refine SeqR.d1 rfl rfl rfl (yl_call Try.en142 rfl (opvs_cons rfl (opvs_cons rfl opvs_nil)) (Cal.mono (c_i_areLetters (p_0.Cols.getD k28 d_Str) 3 (okL.getD o3.2.1 ok_d_Str _)) ?_))
            rintro v59 w58 ⟨rfl, hE60⟩
            have hE60z := Ex.size hE60
            refine SeqR.d1 rfl rfl rfl (yl_not rfl rfl ?_)
            refine SeqR.d1 rfl rfl rfl (yl_move rfl rfl ?_)
            refine bcase (i_areLetters (p_0.Cols.getD k28 d_Str) 3) (fun hb61 => ?_) (fun hb61 => ?_)
            · skip
              refine SeqR.y rfl rfl rfl rfl rfl (not_t hb61) (yl_fieldAddr Try.fd35_1 rfl rfl ?_)
              have q62 := Box.ex hf51 hE60
              refine SeqR.y rfl rfl rfl rfl rfl (not_t hb61) (yl_load1 Try.ty22 rfl rfl ((q62.cell 1).trans rfl) ?_)
              refine SeqR.y rfl rfl rfl rfl rfl (not_t hb61) (yl_move rfl rfl ?_)
              have q63 := RdS.ex good_Str hf52 hE60
              obtain ⟨A64, c65, he68, h67⟩ := RdS.sl (RdS.drop (RdS.take q63 (k := k28) (by omega)) (k := 0) (by omega))
              have hrc69 := (q63).2.1
              refine SeqR.y rfl rfl rfl rfl rfl (not_t hb61) (yl_sliceR (kl := .i64) (l := 0) (h := k28) Try.un22 Try.ty9 rfl rfl (.inl ⟨rfl, rfl⟩) (.inr ⟨_, rfl, rfl⟩) (by omega) (by omega) he68 ?_)
              refine SeqR.y rfl rfl rfl rfl rfl (not_t hb61) (yl_move rfl rfl ?_)
              refine SeqR.y rfl rfl rfl rfl rfl (not_t hb61) (yl_call Try.en143 rfl (opvs_cons rfl (opvs_cons rfl opvs_nil)) (Cal.mono (c_g_slices_Contains_string (p_0.Cols.take k28) (p_0.Cols.getD k28 d_Str) (RdS.up h67 good_Str) (okL.take o3.2.1 _) (okL.getD o3.2.1 ok_d_Str _)) ?_))
              rintro v71 w70 ⟨rfl, hE72⟩
              have hE72z := Ex.size hE72
              refine SeqR.d1 rfl rfl rfl (yl_pick_f rfl rfl (not_t hb61) rfl ?_)
              refine SeqR.done ?_
              refine tn ?_
              refine bcase (g_slices_Contains_string (p_0.Cols.take k28) (p_0.Cols.getD k28 d_Str)) (fun hb73 => ?_) (fun hb73 => ?_)
              · skip
                refine CW.cond_t rfl hb73 ?_
                refine CW.seq ?_
                refine CW.region ?_
                refine SeqR.d1 rfl rfl rfl (yl_assign rfl rfl ?_)
                refine SeqR.done ?_
                refine tn ?_
                refine CW.ret ?_
                refine br ?_
                refine tr ?_
                refine tr ?_
                have hB75 : B_i_GoodTable_0 p_0 k28 () = .ret false := by simp only [B_i_GoodTable_0, hb16, hb21, hb23, hb61, hb73, cond_true, cond_false, loopE_done, loopE_ret]
                have hL74 : loopM (B_i_GoodTable_0 p_0) (p_0.Cols.length - 0) 0 () = .ret false := hI45.symm.trans (loopM.ret hlt56 hB75)
                refine br ?_
                refine tr ?_
                refine rr rfl (.cons rfl .nil) ?_
                have hM76 : (i_GoodTable p_0) = (false) := by simp only [i_GoodTable, hb16, hb21, hb23, hb61, hb73, hL74, cond_true, cond_false, loopE_done, loopE_ret]
                rw [hM76]
                have q77 := Ex.trans hf54 hE60
                have q78 := Ex.trans q77 hE72
                exact ⟨rfl, q78⟩
              · skip
                refine CW.cond_f rfl hb73 ?_
                refine CW.skip ?_
                refine bn ?_
                refine tn ?_
                refine CW.region ?_
                refine SeqR.d1 rfl rfl rfl (yl_inc rfl rfl rfl (by omega) ?_)
                refine SeqR.d1 rfl rfl rfl (yl_move rfl rfl ?_)
                refine SeqR.done ?_
                refine tn ?_
                have hB79 : B_i_GoodTable_0 p_0 k28 () = .cont () := by simp only [B_i_GoodTable_0, hb16, hb21, hb23, hb61, hb73, cond_true, cond_false, loopE_done, loopE_ret]
                have q80 := Box.ex q62 hE72
                have q81 := RdS.ex good_Str q63 hE72
                have q82 := RdS.ex good_Idx hf53 hE60
                have q83 := RdS.ex good_Idx q82 hE72
                have q84 := Ex.trans hf54 hE60
                have q85 := Ex.trans q84 hE72
                exact ⟨p_0.Cols.length - (k28 + 1), by omega, k28 + 1, rfl, hlt56, (by omega), rfl, rfl, rfl, rfl, q80, q81, q83, q85, (loopM.cont hlt56 hB79).symm.trans hI45⟩
            · skip
              refine SeqR.z rfl rfl rfl rfl rfl (not_f hb61) ?_
              refine SeqR.z rfl rfl rfl rfl rfl (not_f hb61) ?_
              refine SeqR.z rfl rfl rfl rfl rfl (not_f hb61) ?_
              refine SeqR.z rfl rfl rfl rfl rfl (not_f hb61) ?_
              refine SeqR.z rfl rfl rfl rfl rfl (not_f hb61) ?_
              refine SeqR.z rfl rfl rfl rfl rfl (not_f hb61) ?_
              refine SeqR.d1 rfl rfl rfl (yl_pick_t rfl rfl (not_f hb61) rfl ?_)
              refine SeqR.done ?_
              refine tn ?_
              refine CW.cond_t rfl rfl ?_
              refine CW.seq ?_
              refine CW.region ?_
              refine SeqR.d1 rfl rfl rfl (yl_assign rfl rfl ?_)
              refine SeqR.done ?_
              refine tn ?_
              refine CW.ret ?_
              refine br ?_
              refine tr ?_
              refine tr ?_
              have hB87 : B_i_GoodTable_0 p_0 k28 () = .ret false := by simp only [B_i_GoodTable_0, hb16, hb21, hb23, hb61, cond_true, cond_false, loopE_done, loopE_ret]
              have hL86 : loopM (B_i_GoodTable_0 p_0) (p_0.Cols.length - 0) 0 () = .ret false := hI45.symm.trans (loopM.ret hlt56 hB87)
              refine br ?_
              refine tr ?_
              refine rr rfl (.cons rfl .nil) ?_
              have hM88 : (i_GoodTable p_0) = (false) := by simp only [i_GoodTable, hb16, hb21, hb23, hb61, hL86, cond_true, cond_false, loopE_done, loopE_ret]
              rw [hM88]
              have q89 := Ex.trans hf54 hE60
              exact ⟨rfl, q89⟩
          · skip
            refine CW.seq ?_
            refine CW.region ?_
            refine SeqR.d1 rfl rfl rfl (yl_lss rfl rfl rfl ?_)
            refine SeqR.done ?_
            refine tn ?_
            refine CW.seq ?_
            refine CW.cond_f rfl (lt_f hlt56) ?_
            refine CW.exit ?_
            refine tx ?_
            refine tx ?_
            have hL90 : loopM (B_i_GoodTable_0 p_0) (p_0.Cols.length - 0) 0 () = .done () := hI45.symm.trans (loopM.stop hlt56)
            refine bx ?_
            refine tn ?_
            refine CW.seq ?_
            refine CW.seq ?_
            refine CW.region ?_
            refine SeqR.d1 rfl rfl rfl (yl_fieldAddr Try.fd35_2 rfl rfl ?_)
            refine SeqR.d1 rfl rfl rfl (yl_load1 Try.ty33 rfl rfl ((hf51.cell 2).trans rfl) ?_)
            refine SeqR.d1 rfl rfl rfl (yl_len Try.un33 rfl rfl ?_)
            refine SeqR.d1 rfl rfl rfl (yl_move rfl rfl ?_)
            refine SeqR.done ?_
            refine tn ?_
            refine CW.block ?_
            refine CW.loop (fun m129 L130 w131 => ∃ (k91 : Nat), m129 = p_0.Idxs.length - k91 ∧ k91 ≤ p_0.Idxs.length ∧ w43.heap.size ≤ w131.heap.size ∧ lkp L130 1 = some (.pointer (some ⟨b7, 0, none⟩)) ∧ lkp L130 45 = some (.slice A2 p_0.Idxs.length c2) ∧ lkp L130 46 = some (.int .i64 ((p_0.Idxs.length : Int))) ∧ lkp L130 47 = some (.int .i64 ((k91 : Int))) ∧ Box w131 b7 35 [.string (bs (p_0.Name)), .slice A1 p_0.Cols.length c1, .slice A2 p_0.Idxs.length c2] ∧ RdS w131 (Iv 0 w.heap.size) (RF e_Str) 1 A1 p_0.Cols.length c1 p_0.Cols ∧ RdS w131 (Iv 0 w.heap.size) (RF e_Idx) 3 A2 p_0.Idxs.length c2 p_0.Idxs ∧ Ex w w131 ∧ loopM (B_i_GoodTable_1 p_0) (p_0.Idxs.length - k91) k91 () = loopM (B_i_GoodTable_1 p_0) (p_0.Idxs.length - 0) 0 ()) (p_0.Idxs.length - 0) ?_ ?_
            · exact ⟨0, rfl, (by omega), Nat.le_refl _, rfl, rfl, rfl, rfl, hf51, hf52, hf53, hf54, rfl⟩
            · rintro m132 L133 w134 ⟨k91, rfl, hk135, hsz137, hl138, hl139, hl140, hl141, hf142, hf143, hf144, hf145, hI136⟩
              refine CW.sub (Sub.cons hl138 (Sub.cons hl139 (Sub.cons hl140 (Sub.cons hl141 (Sub.nil _))))) ?_
              have hf142z := Box.lt hf142
              have hf145z := Ex.size hf145
              have hbg146 := RdS.big hf144
              rcases Nat.lt_or_ge k91 p_0.Idxs.length with hlt147 | hlt147
              · skip
                refine CW.seq ?_
                refine CW.region ?_
                refine SeqR.d1 rfl rfl rfl (yl_lss rfl rfl rfl ?_)
                refine SeqR.done ?_
                refine tn ?_
                refine CW.seq ?_
                refine CW.cond_t rfl (lt_t hlt147) ?_
                refine CW.skip ?_
                refine tn ?_
                refine CW.seq ?_
                refine CW.block ?_
                refine CW.seq ?_
                refine CW.region ?_
                refine SeqR.d1 rfl rfl rfl (yl_move rfl rfl ?_)
                obtain ⟨eb148, eo148, ec148, eA148, eS148, ebl148, el148, eR148, eC148⟩ := RdS.atD hf144 d_Idx (i := k91) (by first | omega | assumption)
                obtain rfl := eR148
                have eC148 : Cells w134 eb148 (eo148 + k91 * 3) [.string (bs ((p_0.Idxs.getD k91 d_Idx).Name)), .int .i64 ((p_0.Idxs.getD k91 d_Idx).Col), .int .i64 ((p_0.Idxs.getD k91 d_Idx).Stage)] := eC148
                refine SeqR.d1 rfl rfl rfl (yl_indexAddrN Try.un33 Try.ty132 rfl rfl rfl eA148 (by first | omega | assumption | (simp only [IntKind.wrap_i64] at *; omega)) ?_)
                refine SeqR.d1 rfl rfl rfl (yl_loadN (cs := [.string (bs ((p_0.Idxs.getD k91 d_Idx).Name)), .int .i64 ((p_0.Idxs.getD k91 d_Idx).Col), .int .i64 ((p_0.Idxs.getD k91 d_Idx).Stage)]) Try.ty132 rfl rfl eC148 rfl ?_)
                refine SeqR.d1 rfl rfl rfl (yl_alloc Try.ty132 (cs := [.string (bs (([] : Str))), .int .i64 (0), .int .i64 (0)]) rfl rfl ?_)
                intro b149 w150 hs151 hz152 hB153 hE154
                refine SeqR.d1 rfl rfl rfl (yl_assign rfl rfl ?_)
                refine SeqR.u rfl rfl (yl_store (vs := [.string (bs ((p_0.Idxs.getD k91 d_Idx).Name)), .int .i64 ((p_0.Idxs.getD k91 d_Idx).Col), .int .i64 ((p_0.Idxs.getD k91 d_Idx).Stage)]) Try.ty132 rfl rfl rfl rfl rfl rfl hB153 (Nat.le_of_ble_eq_true rfl) ?_)
                intro w155 hB156 hO157
                have hB156 : Box w155 b149 132 [.string (bs ((p_0.Idxs.getD k91 d_Idx).Name)), .int .i64 ((p_0.Idxs.getD k91 d_Idx).Col), .int .i64 ((p_0.Idxs.getD k91 d_Idx).Stage)] := hB156
                have hO157z := hO157.size
                refine SeqR.done ?_
                refine tn ?_
                refine CW.seq ?_
                refine bcase (i_areLetters ((p_0.Idxs.getD k91 d_Idx).Name) 1) (fun hb159 => ?_) (fun hb159 => ?_)
                · skip
                  have q161 := Box.ex hf142 hE154
                  have q162 := Box.only q161 hO157 (by omega)
                  refine bcase (i_within ((p_0.Idxs.getD k91 d_Idx).Col) 1 (IntKind.wrap .i64 ((p_0.Cols.length : Int) - 1))) (fun hb164 => ?_) (fun hb164 => ?_)
                  · have hb164p := f_within hb164
                    have q166 := Box.ex hf142 hE154
                    have q167 := Box.only q166 hO157 (by omega)
                    refine bcase (i_isStage ((p_0.Idxs.getD k91 d_Idx).Stage)) (fun hb170 => ?_) (fun hb170 => ?_)
                    · skip
                      have q172 := Box.ex hf142 hE154
                      have q173 := Box.only q172 hO157 (by omega)
                      refine bcase (decide (0 < (k91 : Int))) (fun hb176 => ?_) (fun hb176 => ?_)
                      · have hb176p := dec_t hb176
                        have q178 := Box.ex hf142 hE154
                        have q179 := Box.only q178 hO157 (by omega)
                        have q182 := RdS.ex good_Idx hf144 hE154
                        have q183 := RdS.only good_Idx q182 hO157 (by simp only [Iv]; omega)
                        obtain ⟨eb184, eo184, ec184, eA184, eS184, ebl184, el184, eR184, eC184⟩ := RdS.atD q183 d_Idx (i := (IntKind.wrap .i64 ((k91 : Int) - 1)).toNat) (by first | omega | assumption | (simp only [IntKind.wrap_i64] at *; omega))
                        obtain rfl := eR184
                        have eC184 : Cells w155 eb184 (eo184 + ((IntKind.wrap .i64 ((k91 : Int) - 1)).toNat) * 3) [.string (bs ((p_0.Idxs.getD ((IntKind.wrap .i64 ((k91 : Int) - 1)).toNat) d_Idx).Name)), .int .i64 ((p_0.Idxs.getD ((IntKind.wrap .i64 ((k91 : Int) - 1)).toNat) d_Idx).Col), .int .i64 ((p_0.Idxs.getD ((IntKind.wrap .i64 ((k91 : Int) - 1)).toNat) d_Idx).Stage)] := eC184
                        refine CW.drawsI 36 (vgetI [DetI (.pointer (some ⟨b149, 0 + 0, none⟩)), DetI (.string (bs ((p_0.Idxs.getD k91 d_Idx).Name))), DetI (.bool ((i_areLetters ((p_0.Idxs.getD k91 d_Idx).Name) 1))), DetI (.bool (!(i_areLetters ((p_0.Idxs.getD k91 d_Idx).Name) 1))), DetI (.bool (!(i_areLetters ((p_0.Idxs.getD k91 d_Idx).Name) 1))), DetI (.pointer (some ⟨b149, 0 + 1, none⟩)), DetI (.int .i64 ((p_0.Idxs.getD k91 d_Idx).Col)), DetI (.pointer (some ⟨b7, 0 + 1, none⟩)), DetI (.slice A1 p_0.Cols.length c1), DetI (.int .i64 ((p_0.Cols.length : Int))), DetI (.int .i64 (IntKind.wrap .i64 ((p_0.Cols.length : Int) - 1))), DetI (.bool ((i_within ((p_0.Idxs.getD k91 d_Idx).Col) 1 (IntKind.wrap .i64 ((p_0.Cols.length : Int) - 1))))), DetI (.bool (!(i_within ((p_0.Idxs.getD k91 d_Idx).Col) 1 (IntKind.wrap .i64 ((p_0.Cols.length : Int) - 1))))), DetI (.bool (!(i_within ((p_0.Idxs.getD k91 d_Idx).Col) 1 (IntKind.wrap .i64 ((p_0.Cols.length : Int) - 1))))), DetI (.bool (!(i_within ((p_0.Idxs.getD k91 d_Idx).Col) 1 (IntKind.wrap .i64 ((p_0.Cols.length : Int) - 1))))), DetI (.pointer (some ⟨b149, 0 + 2, none⟩)), DetI (.int .i64 ((p_0.Idxs.getD k91 d_Idx).Stage)), DetI (.bool ((i_isStage ((p_0.Idxs.getD k91 d_Idx).Stage)))), DetI (.bool (!(i_isStage ((p_0.Idxs.getD k91 d_Idx).Stage)))), DetI (.bool (!(i_isStage ((p_0.Idxs.getD k91 d_Idx).Stage)))), DetI (.bool (!(i_isStage ((p_0.Idxs.getD k91 d_Idx).Stage)))), DetI (.int .i64 ((k91 : Int))), DetI (.bool (decide (0 < (k91 : Int)))), DetI (.bool (decide (0 < (k91 : Int)))), DetI (.pointer (some ⟨b149, 0 + 0, none⟩)), DetI (.string (bs ((p_0.Idxs.getD k91 d_Idx).Name))), DetI (.pointer (some ⟨b7, 0 + 2, none⟩)), DetI (.slice A2 p_0.Idxs.length c2), DetI (.int .i64 ((k91 : Int))), DetI (.int .i64 (IntKind.wrap .i64 ((k91 : Int) - 1))), DetI (.pointer (some ⟨eb184, eo184 + ((IntKind.wrap .i64 ((k91 : Int) - 1)).toNat) * 3, none⟩)), DetI (.pointer (some ⟨eb184, eo184 + ((IntKind.wrap .i64 ((k91 : Int) - 1)).toNat) * 3 + 0, none⟩)), DetI (.string (bs ((p_0.Idxs.getD ((IntKind.wrap .i64 ((k91 : Int) - 1)).toNat) d_Idx).Name))), DetI (.bool (sLe ((p_0.Idxs.getD k91 d_Idx).Name) ((p_0.Idxs.getD ((IntKind.wrap .i64 ((k91 : Int) - 1)).toNat) d_Idx).Name))), DetI (.bool (sLe ((p_0.Idxs.getD k91 d_Idx).Name) ((p_0.Idxs.getD ((IntKind.wrap .i64 ((k91 : Int) - 1)).toNat) d_Idx).Name))), DetI (.bool (sLe ((p_0.Idxs.getD k91 d_Idx).Name) ((p_0.Idxs.getD ((IntKind.wrap .i64 ((k91 : Int) - 1)).toNat) d_Idx).Name)))]) Try.follows rfl rfl rfl rfl rfl rfl (vgetI_stable ⟨StableI.det _, StableI.det _, StableI.det _, StableI.det _, StableI.det _, StableI.det _, StableI.det _, StableI.det _, StableI.det _, StableI.det _, StableI.det _, StableI.det _, StableI.det _, StableI.det _, StableI.det _, StableI.det _, StableI.det _, StableI.det _, StableI.det _, StableI.det _, StableI.det _, StableI.det _, StableI.det _, StableI.det _, StableI.det _, StableI.det _, StableI.det _, StableI.det _, StableI.det _, StableI.det _, StableI.det _, StableI.det _, StableI.det _, StableI.det _, StableI.det _, StableI.det _, trivial⟩) ⟨?_, ?_, ?_, ?_, ?_, ?_, ?_, ?_, ?_, ?_, ?_, ?_, ?_, ?_, ?_, ?_, ?_, ?_, ?_, ?_, ?_, ?_, ?_, ?_, ?_, ?_, ?_, ?_, ?_, ?_, ?_, ?_, ?_, ?_, ?_, ?_, trivial⟩ ?_
                        · intro L185 w186 hi187
                          have hE188 := hi187.ex
                          have hE188z := Ex.size hE188
                          have hx189 := hi187.old 6 _ rfl rfl
                          exact OpR.op' rfl (Yl.sameI (yl_fieldAddr Try.fd132_0 rfl hx189 ⟨fun _ _ => rfl, rfl⟩))
                        · intro L190 w191 hi192
                          have hE193 := hi192.ex
                          have hE193z := Ex.size hE193
                          obtain ⟨_, _, _, hx194, -, -, -, rfl⟩ := hi192.dep 0 52 rfl rfl
                          have q195 := Box.ex hB156 hE193
                          exact OpR.op' rfl (Yl.sameI (yl_load1 Try.ty9 rfl hx194 ((q195.cell 0).trans rfl) ⟨fun _ _ => rfl, rfl⟩))
                        · intro L196 w197 hi198
                          have hE199 := hi198.ex
                          have hE199z := Ex.size hE199
                          obtain ⟨_, _, _, hx200, -, -, -, rfl⟩ := hi198.dep 1 53 rfl rfl
                          refine OpR.op' rfl (yl_call Try.en142 rfl (opvs_cons hx200 (opvs_cons rfl opvs_nil)) (Cal.mono (c_i_areLetters ((p_0.Idxs.getD k91 d_Idx).Name) 1 (okL.getD o3.2.2 ok_d_Idx _)) ?_))
                          rintro v202 w201 ⟨rfl, hE203⟩
                          exact ⟨rfl, hE203⟩
                        · intro L204 w205 hi206
                          have hE207 := hi206.ex
                          have hE207z := Ex.size hE207
                          obtain ⟨_, _, _, hx208, -, -, -, rfl⟩ := hi206.dep 2 54 rfl rfl
                          exact OpR.op' rfl (Yl.sameI (yl_not rfl hx208 ⟨fun _ _ => rfl, rfl⟩))
                        · intro L209 w210 hi211
                          have hE212 := hi211.ex
                          have hE212z := Ex.size hE212
                          obtain ⟨_, _, _, hx213, -, -, -, rfl⟩ := hi211.dep 3 55 rfl rfl
                          exact OpR.op' rfl (Yl.sameI (yl_move rfl hx213 ⟨fun _ _ => rfl, rfl⟩))
                        · intro L214 w215 hi216
                          have hE217 := hi216.ex
                          have hE217z := Ex.size hE217
                          obtain ⟨_, _, _, hx218, -, -, -, rfl⟩ := hi216.dep 4 56 rfl rfl
                          have hx219 := hi216.old 6 _ rfl rfl
                          exact OpR.want rfl rfl hx218 (not_t hb159) (Yl.sameI (yl_fieldAddr Try.fd132_1 rfl hx219 ⟨fun _ _ => rfl, rfl⟩))
                        · intro L220 w221 hi222
                          have hE223 := hi222.ex
                          have hE223z := Ex.size hE223
                          obtain ⟨_, _, _, hx224, -, -, -, rfl⟩ := hi222.dep 4 56 rfl rfl
                          obtain ⟨_, _, _, hx225, -, -, -, rfl⟩ := hi222.dep 5 57 rfl rfl
                          have q226 := Box.ex hB156 hE223
                          exact OpR.want rfl rfl hx224 (not_t hb159) (Yl.sameI (yl_load1 Try.ty3 rfl hx225 ((q226.cell 1).trans rfl) ⟨fun _ _ => rfl, rfl⟩))
                        · intro L227 w228 hi229
                          have hE230 := hi229.ex
                          have hE230z := Ex.size hE230
                          obtain ⟨_, _, _, hx231, -, -, -, rfl⟩ := hi229.dep 4 56 rfl rfl
                          have hx232 := hi229.old 1 _ rfl rfl
                          exact OpR.want rfl rfl hx231 (not_t hb159) (Yl.sameI (yl_fieldAddr Try.fd35_1 rfl hx232 ⟨fun _ _ => rfl, rfl⟩))
                        · intro L233 w234 hi235
                          have hE236 := hi235.ex
                          have hE236z := Ex.size hE236
                          obtain ⟨_, _, _, hx237, -, -, -, rfl⟩ := hi235.dep 4 56 rfl rfl
                          obtain ⟨_, _, _, hx238, -, -, -, rfl⟩ := hi235.dep 7 59 rfl rfl
                          have q239 := Box.ex q179 hE236
                          exact OpR.want rfl rfl hx237 (not_t hb159) (Yl.sameI (yl_load1 Try.ty22 rfl hx238 ((q239.cell 1).trans rfl) ⟨fun _ _ => rfl, rfl⟩))
                        · intro L240 w241 hi242
                          have hE243 := hi242.ex
                          have hE243z := Ex.size hE243
                          obtain ⟨_, _, _, hx244, -, -, -, rfl⟩ := hi242.dep 4 56 rfl rfl
                          obtain ⟨_, _, _, hx245, -, -, -, rfl⟩ := hi242.dep 8 60 rfl rfl
                          exact OpR.want rfl rfl hx244 (not_t hb159) (Yl.sameI (yl_len Try.un22 rfl hx245 ⟨fun _ _ => rfl, rfl⟩))
                        · intro L246 w247 hi248
                          have hE249 := hi248.ex
                          have hE249z := Ex.size hE249
                          obtain ⟨_, _, _, hx250, -, -, -, rfl⟩ := hi248.dep 4 56 rfl rfl
                          obtain ⟨_, _, _, hx251, -, -, -, rfl⟩ := hi248.dep 9 61 rfl rfl
                          exact OpR.want rfl rfl hx250 (not_t hb159) (Yl.sameI (yl_sub rfl hx251 rfl ⟨fun _ _ => rfl, rfl⟩))
                        · intro L252 w253 hi254
                          have hE255 := hi254.ex
                          have hE255z := Ex.size hE255
                          obtain ⟨_, _, _, hx256, -, -, -, rfl⟩ := hi254.dep 4 56 rfl rfl
                          obtain ⟨_, _, _, hx257, -, -, -, rfl⟩ := hi254.dep 6 58 rfl rfl
                          obtain ⟨_, _, _, hx258, -, -, -, rfl⟩ := hi254.dep 10 62 rfl rfl
                          refine OpR.want rfl rfl hx256 (not_t hb159) (yl_call Try.en129 rfl (opvs_cons hx257 (opvs_cons rfl (opvs_cons hx258 opvs_nil))) (Cal.mono (c_i_within ((p_0.Idxs.getD k91 d_Idx).Col) 1 (IntKind.wrap .i64 ((p_0.Cols.length : Int) - 1))) ?_))
                          rintro v260 w259 ⟨rfl, hE261⟩
                          exact ⟨rfl, hE261⟩
                        · intro L262 w263 hi264
                          have hE265 := hi264.ex
                          have hE265z := Ex.size hE265
                          obtain ⟨_, _, _, hx266, -, -, -, rfl⟩ := hi264.dep 4 56 rfl rfl
                          obtain ⟨_, _, _, hx267, -, -, -, rfl⟩ := hi264.dep 11 63 rfl rfl
                          exact OpR.want rfl rfl hx266 (not_t hb159) (Yl.sameI (yl_not rfl hx267 ⟨fun _ _ => rfl, rfl⟩))
                        · intro L268 w269 hi270
                          have hE271 := hi270.ex
                          have hE271z := Ex.size hE271
                          obtain ⟨_, _, _, hx272, -, -, -, rfl⟩ := hi270.dep 12 64 rfl rfl
                          obtain ⟨_, _, _, hx273, -, -, -, rfl⟩ := hi270.dep 4 56 rfl rfl
                          exact OpR.op' rfl (Yl.sameI (yl_pick_f rfl hx273 (not_t hb159) hx272 ⟨fun _ _ => rfl, rfl⟩))
                        · intro L274 w275 hi276
                          have hE277 := hi276.ex
                          have hE277z := Ex.size hE277
                          obtain ⟨_, _, _, hx278, -, -, -, rfl⟩ := hi276.dep 13 65 rfl rfl
                          exact OpR.op' rfl (Yl.sameI (yl_move rfl hx278 ⟨fun _ _ => rfl, rfl⟩))
                        · intro L279 w280 hi281
                          have hE282 := hi281.ex
                          have hE282z := Ex.size hE282
                          obtain ⟨_, _, _, hx283, -, -, -, rfl⟩ := hi281.dep 14 66 rfl rfl
                          have hx284 := hi281.old 6 _ rfl rfl
                          exact OpR.want rfl rfl hx283 (not_t hb164) (Yl.sameI (yl_fieldAddr Try.fd132_2 rfl hx284 ⟨fun _ _ => rfl, rfl⟩))
                        · intro L285 w286 hi287
                          have hE288 := hi287.ex
                          have hE288z := Ex.size hE288
                          obtain ⟨_, _, _, hx289, -, -, -, rfl⟩ := hi287.dep 14 66 rfl rfl
                          obtain ⟨_, _, _, hx290, -, -, -, rfl⟩ := hi287.dep 15 67 rfl rfl
                          have q291 := Box.ex hB156 hE288
                          exact OpR.want rfl rfl hx289 (not_t hb164) (Yl.sameI (yl_load1 Try.ty3 rfl hx290 ((q291.cell 2).trans rfl) ⟨fun _ _ => rfl, rfl⟩))
                        · intro L292 w293 hi294
                          have hE295 := hi294.ex
                          have hE295z := Ex.size hE295
                          obtain ⟨_, _, _, hx296, -, -, -, rfl⟩ := hi294.dep 14 66 rfl rfl
                          obtain ⟨_, _, _, hx297, -, -, -, rfl⟩ := hi294.dep 16 68 rfl rfl
                          refine OpR.want rfl rfl hx296 (not_t hb164) (yl_call Try.en108 rfl (opvs_cons hx297 opvs_nil) (Cal.mono (c_i_isStage ((p_0.Idxs.getD k91 d_Idx).Stage)) ?_))
                          rintro v299 w298 ⟨rfl, hE300⟩
                          exact ⟨rfl, hE300⟩
                        · intro L301 w302 hi303
                          have hE304 := hi303.ex
                          have hE304z := Ex.size hE304
                          obtain ⟨_, _, _, hx305, -, -, -, rfl⟩ := hi303.dep 14 66 rfl rfl
                          obtain ⟨_, _, _, hx306, -, -, -, rfl⟩ := hi303.dep 17 69 rfl rfl
                          exact OpR.want rfl rfl hx305 (not_t hb164) (Yl.sameI (yl_not rfl hx306 ⟨fun _ _ => rfl, rfl⟩))
                        · intro L307 w308 hi309
                          have hE310 := hi309.ex
                          have hE310z := Ex.size hE310
                          obtain ⟨_, _, _, hx311, -, -, -, rfl⟩ := hi309.dep 18 70 rfl rfl
                          obtain ⟨_, _, _, hx312, -, -, -, rfl⟩ := hi309.dep 14 66 rfl rfl
                          exact OpR.op' rfl (Yl.sameI (yl_pick_f rfl hx312 (not_t hb164) hx311 ⟨fun _ _ => rfl, rfl⟩))
                        · intro L313 w314 hi315
                          have hE316 := hi315.ex
                          have hE316z := Ex.size hE316
                          obtain ⟨_, _, _, hx317, -, -, -, rfl⟩ := hi315.dep 19 71 rfl rfl
                          exact OpR.op' rfl (Yl.sameI (yl_move rfl hx317 ⟨fun _ _ => rfl, rfl⟩))
                        · intro L318 w319 hi320
                          have hE321 := hi320.ex
                          have hE321z := Ex.size hE321
                          obtain ⟨_, _, _, hx322, -, -, -, rfl⟩ := hi320.dep 20 72 rfl rfl
                          have hx323 := hi320.old 5 _ rfl rfl
                          exact OpR.want rfl rfl hx322 (not_t hb170) (Yl.sameI (yl_move rfl hx323 ⟨fun _ _ => rfl, rfl⟩))
                        · intro L324 w325 hi326
                          have hE327 := hi326.ex
                          have hE327z := Ex.size hE327
                          obtain ⟨_, _, _, hx328, -, -, -, rfl⟩ := hi326.dep 20 72 rfl rfl
                          obtain ⟨_, _, _, hx329, -, -, -, rfl⟩ := hi326.dep 21 73 rfl rfl
                          exact OpR.want rfl rfl hx328 (not_t hb170) (Yl.sameI (yl_gtr rfl hx329 rfl ⟨fun _ _ => rfl, rfl⟩))
                        · intro L330 w331 hi332
                          have hE333 := hi332.ex
                          have hE333z := Ex.size hE333
                          obtain ⟨_, _, _, hx334, -, -, -, rfl⟩ := hi332.dep 20 72 rfl rfl
                          obtain ⟨_, _, _, hx335, -, -, -, rfl⟩ := hi332.dep 22 74 rfl rfl
                          exact OpR.want rfl rfl hx334 (not_t hb170) (Yl.sameI (yl_move rfl hx335 ⟨fun _ _ => rfl, rfl⟩))
                        · intro L336 w337 hi338
                          have hE339 := hi338.ex
                          have hE339z := Ex.size hE339
                          obtain ⟨_, _, _, hx340, -, -, -, rfl⟩ := hi338.dep 23 75 rfl rfl
                          have hx341 := hi338.old 6 _ rfl rfl
                          exact OpR.want rfl rfl hx340 hb176 (Yl.sameI (yl_fieldAddr Try.fd132_0 rfl hx341 ⟨fun _ _ => rfl, rfl⟩))
                        · intro L342 w343 hi344
                          have hE345 := hi344.ex
                          have hE345z := Ex.size hE345
                          obtain ⟨_, _, _, hx346, -, -, -, rfl⟩ := hi344.dep 23 75 rfl rfl
                          obtain ⟨_, _, _, hx347, -, -, -, rfl⟩ := hi344.dep 24 76 rfl rfl
                          have q348 := Box.ex hB156 hE345
                          exact OpR.want rfl rfl hx346 hb176 (Yl.sameI (yl_load1 Try.ty9 rfl hx347 ((q348.cell 0).trans rfl) ⟨fun _ _ => rfl, rfl⟩))
                        · intro L349 w350 hi351
                          have hE352 := hi351.ex
                          have hE352z := Ex.size hE352
                          obtain ⟨_, _, _, hx353, -, -, -, rfl⟩ := hi351.dep 23 75 rfl rfl
                          have hx354 := hi351.old 1 _ rfl rfl
                          exact OpR.want rfl rfl hx353 hb176 (Yl.sameI (yl_fieldAddr Try.fd35_2 rfl hx354 ⟨fun _ _ => rfl, rfl⟩))
                        · intro L355 w356 hi357
                          have hE358 := hi357.ex
                          have hE358z := Ex.size hE358
                          obtain ⟨_, _, _, hx359, -, -, -, rfl⟩ := hi357.dep 23 75 rfl rfl
                          obtain ⟨_, _, _, hx360, -, -, -, rfl⟩ := hi357.dep 26 78 rfl rfl
                          have q361 := Box.ex q179 hE358
                          exact OpR.want rfl rfl hx359 hb176 (Yl.sameI (yl_load1 Try.ty33 rfl hx360 ((q361.cell 2).trans rfl) ⟨fun _ _ => rfl, rfl⟩))
                        · intro L362 w363 hi364
                          have hE365 := hi364.ex
                          have hE365z := Ex.size hE365
                          obtain ⟨_, _, _, hx366, -, -, -, rfl⟩ := hi364.dep 23 75 rfl rfl
                          have hx367 := hi364.old 5 _ rfl rfl
                          exact OpR.want rfl rfl hx366 hb176 (Yl.sameI (yl_move rfl hx367 ⟨fun _ _ => rfl, rfl⟩))
                        · intro L368 w369 hi370
                          have hE371 := hi370.ex
                          have hE371z := Ex.size hE371
                          obtain ⟨_, _, _, hx372, -, -, -, rfl⟩ := hi370.dep 23 75 rfl rfl
                          obtain ⟨_, _, _, hx373, -, -, -, rfl⟩ := hi370.dep 28 80 rfl rfl
                          exact OpR.want rfl rfl hx372 hb176 (Yl.sameI (yl_sub rfl hx373 rfl ⟨fun _ _ => rfl, rfl⟩))
                        · intro L374 w375 hi376
                          have hE377 := hi376.ex
                          have hE377z := Ex.size hE377
                          obtain ⟨_, _, _, hx378, -, -, -, rfl⟩ := hi376.dep 23 75 rfl rfl
                          obtain ⟨_, _, _, hx379, -, -, -, rfl⟩ := hi376.dep 27 79 rfl rfl
                          obtain ⟨_, _, _, hx380, -, -, -, rfl⟩ := hi376.dep 29 81 rfl rfl
                          exact OpR.want rfl rfl hx378 hb176 (Yl.sameI (yl_indexAddr Try.un33 Try.ty132 rfl hx379 hx380 eA184 (by first | omega | assumption | (simp only [IntKind.wrap_i64] at *; omega)) (by first | omega | assumption | (simp only [IntKind.wrap_i64] at *; omega)) ⟨fun _ _ => rfl, rfl⟩))
                        · intro L381 w382 hi383
                          have hE384 := hi383.ex
                          have hE384z := Ex.size hE384
                          obtain ⟨_, _, _, hx385, -, -, -, rfl⟩ := hi383.dep 23 75 rfl rfl
                          obtain ⟨_, _, _, hx386, -, -, -, rfl⟩ := hi383.dep 30 82 rfl rfl
                          exact OpR.want rfl rfl hx385 hb176 (Yl.sameI (yl_fieldAddr Try.fd132_0 rfl hx386 ⟨fun _ _ => rfl, rfl⟩))
                        · intro L387 w388 hi389
                          have hE390 := hi389.ex
                          have hE390z := Ex.size hE390
                          obtain ⟨_, _, _, hx391, -, -, -, rfl⟩ := hi389.dep 23 75 rfl rfl
                          obtain ⟨_, _, _, hx392, -, -, -, rfl⟩ := hi389.dep 31 83 rfl rfl
                          have q393 := Cells.ex eC184 hE390
                          exact OpR.want rfl rfl hx391 hb176 (Yl.sameI (yl_load1 Try.ty9 rfl hx392 (q393 0 _ rfl) ⟨fun _ _ => rfl, rfl⟩))
                        · intro L394 w395 hi396
                          have hE397 := hi396.ex
                          have hE397z := Ex.size hE397
                          obtain ⟨_, _, _, hx398, -, -, -, rfl⟩ := hi396.dep 23 75 rfl rfl
                          obtain ⟨_, _, _, hx399, -, -, -, rfl⟩ := hi396.dep 25 77 rfl rfl
                          obtain ⟨_, _, _, hx400, -, -, -, rfl⟩ := hi396.dep 32 84 rfl rfl
                          exact OpR.want rfl rfl hx398 hb176 (Yl.sameI (yl_sleq (a := ((p_0.Idxs.getD k91 d_Idx).Name)) (b := ((p_0.Idxs.getD ((IntKind.wrap .i64 ((k91 : Int) - 1)).toNat) d_Idx).Name)) rfl hx399 hx400 ⟨fun _ _ => rfl, rfl⟩))
                        · intro L401 w402 hi403
                          have hE404 := hi403.ex
                          have hE404z := Ex.size hE404
                          obtain ⟨_, _, _, hx405, -, -, -, rfl⟩ := hi403.dep 20 72 rfl rfl
                          obtain ⟨_, _, _, hx406, -, -, -, rfl⟩ := hi403.dep 33 85 rfl rfl
                          obtain ⟨_, _, _, hx407, -, -, -, rfl⟩ := hi403.dep 23 75 rfl rfl
                          exact OpR.want rfl rfl hx405 (not_t hb170) (Yl.sameI (yl_pick_t rfl hx407 hb176 hx406 ⟨fun _ _ => rfl, rfl⟩))
                        · intro L408 w409 hi410
                          have hE411 := hi410.ex
                          have hE411z := Ex.size hE411
                          obtain ⟨_, _, _, hx412, -, -, -, rfl⟩ := hi410.dep 34 86 rfl rfl
                          obtain ⟨_, _, _, hx413, -, -, -, rfl⟩ := hi410.dep 20 72 rfl rfl
                          exact OpR.op' rfl (Yl.sameI (yl_pick_f rfl hx413 (not_t hb170) hx412 ⟨fun _ _ => rfl, rfl⟩))
                        · intro fl417 fh418 L414 w415 hp416
                          have hE419 := hp416.ex
                          have hE419z := Ex.size hE419
                          have hx420 := hp416.old 1 _ rfl rfl
                          have hx421 := hp416.old 45 _ rfl rfl
                          have hx422 := hp416.old 46 _ rfl rfl
                          have hx423 := hp416.old 47 _ rfl rfl
                          obtain ⟨_, hx424, rfl⟩ := hp416.new 5 57 rfl rfl
                          obtain ⟨_, hx425, rfl⟩ := hp416.new 6 58 rfl rfl
                          obtain ⟨_, hx426, rfl⟩ := hp416.new 7 59 rfl rfl
                          obtain ⟨_, hx427, rfl⟩ := hp416.new 8 60 rfl rfl
                          obtain ⟨_, hx428, rfl⟩ := hp416.new 9 61 rfl rfl
                          obtain ⟨_, hx429, rfl⟩ := hp416.new 10 62 rfl rfl
                          obtain ⟨_, hx430, rfl⟩ := hp416.new 11 63 rfl rfl
                          obtain ⟨_, hx431, rfl⟩ := hp416.new 12 64 rfl rfl
                          obtain ⟨_, hx432, rfl⟩ := hp416.new 15 67 rfl rfl
                          obtain ⟨_, hx433, rfl⟩ := hp416.new 16 68 rfl rfl
                          obtain ⟨_, hx434, rfl⟩ := hp416.new 17 69 rfl rfl
                          obtain ⟨_, hx435, rfl⟩ := hp416.new 18 70 rfl rfl
                          obtain ⟨_, hx436, rfl⟩ := hp416.new 21 73 rfl rfl
                          obtain ⟨_, hx437, rfl⟩ := hp416.new 22 74 rfl rfl
                          obtain ⟨_, hx438, rfl⟩ := hp416.new 23 75 rfl rfl
                          obtain ⟨_, hx439, rfl⟩ := hp416.new 24 76 rfl rfl
                          obtain ⟨_, hx440, rfl⟩ := hp416.new 25 77 rfl rfl
                          obtain ⟨_, hx441, rfl⟩ := hp416.new 26 78 rfl rfl
                          obtain ⟨_, hx442, rfl⟩ := hp416.new 27 79 rfl rfl
                          obtain ⟨_, hx443, rfl⟩ := hp416.new 28 80 rfl rfl
                          obtain ⟨_, hx444, rfl⟩ := hp416.new 29 81 rfl rfl
                          obtain ⟨_, hx445, rfl⟩ := hp416.new 30 82 rfl rfl
                          obtain ⟨_, hx446, rfl⟩ := hp416.new 31 83 rfl rfl
                          obtain ⟨_, hx447, rfl⟩ := hp416.new 32 84 rfl rfl
                          obtain ⟨_, hx448, rfl⟩ := hp416.new 33 85 rfl rfl
                          obtain ⟨_, hx449, rfl⟩ := hp416.new 34 86 rfl rfl
                          obtain ⟨_, hx450, rfl⟩ := hp416.new 35 87 rfl rfl
                          refine SeqR.done ?_
                          refine tn ?_
                          refine CW.sub (Sub.cons (d := 1) hx420 (Sub.cons (d := 45) hx421 (Sub.cons (d := 46) hx422 (Sub.cons (d := 47) hx423 (Sub.cons (d := 57) hx424 (Sub.cons (d := 58) hx425 (Sub.cons (d := 59) hx426 (Sub.cons (d := 60) hx427 (Sub.cons (d := 61) hx428 (Sub.cons (d := 62) hx429 (Sub.cons (d := 63) hx430 (Sub.cons (d := 64) hx431 (Sub.cons (d := 67) hx432 (Sub.cons (d := 68) hx433 (Sub.cons (d := 69) hx434 (Sub.cons (d := 70) hx435 (Sub.cons (d := 73) hx436 (Sub.cons (d := 74) hx437 (Sub.cons (d := 75) hx438 (Sub.cons (d := 76) hx439 (Sub.cons (d := 77) hx440 (Sub.cons (d := 78) hx441 (Sub.cons (d := 79) hx442 (Sub.cons (d := 80) hx443 (Sub.cons (d := 81) hx444 (Sub.cons (d := 82) hx445 (Sub.cons (d := 83) hx446 (Sub.cons (d := 84) hx447 (Sub.cons (d := 85) hx448 (Sub.cons (d := 86) hx449 (Sub.cons (d := 87) hx450 (Sub.nil _)))))))))))))))))))))))))))))))) ?_
                          refine bcase (sLe ((p_0.Idxs.getD k91 d_Idx).Name) ((p_0.Idxs.getD ((IntKind.wrap .i64 ((k91 : Int) - 1)).toNat) d_Idx).Name)) (fun hb451 => ?_) (fun hb451 => ?_)
                          · skip
                            refine CW.cond_t rfl hb451 ?_
                            refine CW.seq ?_
                            refine CW.region ?_
                            refine SeqR.d1 rfl rfl rfl (yl_assign rfl rfl ?_)
                            refine SeqR.done ?_
                            refine tn ?_
                            refine CW.ret ?_
                            refine br ?_
                            refine tr ?_
                            refine tr ?_
                            have hB453 : B_i_GoodTable_1 p_0 k91 () = .ret false := by simp only [B_i_GoodTable_1, hb16, hb21, hb23, hb159, hb164, hb170, hb176, hb451, hL90, cond_true, cond_false, loopE_done, loopE_ret]
                            have hL452 : loopM (B_i_GoodTable_1 p_0) (p_0.Idxs.length - 0) 0 () = .ret false := hI136.symm.trans (loopM.ret hlt147 hB453)
                            refine br ?_
                            refine tr ?_
                            refine rr rfl (.cons rfl .nil) ?_
                            have hM454 : (i_GoodTable p_0) = (false) := by simp only [i_GoodTable, hb16, hb21, hb23, hb159, hb164, hb170, hb176, hb451, hL90, hL452, cond_true, cond_false, loopE_done, loopE_ret]
                            rw [hM454]
                            have q455 := Ex.trans hf145 hE154
                            have q456 := Below.only q455 hO157 (by omega)
                            have q457 := Ex.trans q456 hE419
                            exact ⟨rfl, q457⟩
                          · skip
                            refine CW.cond_f rfl hb451 ?_
                            refine CW.skip ?_
                            refine bn ?_
                            refine tn ?_
                            refine CW.region ?_
                            refine SeqR.d1 rfl rfl rfl (yl_inc rfl rfl rfl (by omega) ?_)
                            refine SeqR.d1 rfl rfl rfl (yl_move rfl rfl ?_)
                            refine SeqR.done ?_
                            refine tn ?_
                            have hB458 : B_i_GoodTable_1 p_0 k91 () = .cont () := by simp only [B_i_GoodTable_1, hb16, hb21, hb23, hb159, hb164, hb170, hb176, hb451, hL90, cond_true, cond_false, loopE_done, loopE_ret]
                            have q459 := Box.ex q179 hE419
                            have q460 := RdS.ex good_Str hf143 hE154
                            have q461 := RdS.only good_Str q460 hO157 (by simp only [Iv]; omega)
                            have q462 := RdS.ex good_Str q461 hE419
                            have q463 := RdS.ex good_Idx q183 hE419
                            have q464 := Ex.trans hf145 hE154
                            have q465 := Below.only q464 hO157 (by omega)
                            have q466 := Ex.trans q465 hE419
                            exact ⟨p_0.Idxs.length - (k91 + 1), by omega, k91 + 1, rfl, hlt147, (by omega), rfl, rfl, rfl, rfl, q459, q462, q463, q466, (loopM.cont hlt147 hB458).symm.trans hI136⟩
                      · have hb176p := dec_f hb176
                        have q468 := Box.ex hf142 hE154
                        have q469 := Box.only q468 hO157 (by omega)
                        refine CW.drawsI 36 (vgetI [DetI (.pointer (some ⟨b149, 0 + 0, none⟩)), DetI (.string (bs ((p_0.Idxs.getD k91 d_Idx).Name))), DetI (.bool ((i_areLetters ((p_0.Idxs.getD k91 d_Idx).Name) 1))), DetI (.bool (!(i_areLetters ((p_0.Idxs.getD k91 d_Idx).Name) 1))), DetI (.bool (!(i_areLetters ((p_0.Idxs.getD k91 d_Idx).Name) 1))), DetI (.pointer (some ⟨b149, 0 + 1, none⟩)), DetI (.int .i64 ((p_0.Idxs.getD k91 d_Idx).Col)), DetI (.pointer (some ⟨b7, 0 + 1, none⟩)), DetI (.slice A1 p_0.Cols.length c1), DetI (.int .i64 ((p_0.Cols.length : Int))), DetI (.int .i64 (IntKind.wrap .i64 ((p_0.Cols.length : Int) - 1))), DetI (.bool ((i_within ((p_0.Idxs.getD k91 d_Idx).Col) 1 (IntKind.wrap .i64 ((p_0.Cols.length : Int) - 1))))), DetI (.bool (!(i_within ((p_0.Idxs.getD k91 d_Idx).Col) 1 (IntKind.wrap .i64 ((p_0.Cols.length : Int) - 1))))), DetI (.bool (!(i_within ((p_0.Idxs.getD k91 d_Idx).Col) 1 (IntKind.wrap .i64 ((p_0.Cols.length : Int) - 1))))), DetI (.bool (!(i_within ((p_0.Idxs.getD k91 d_Idx).Col) 1 (IntKind.wrap .i64 ((p_0.Cols.length : Int) - 1))))), DetI (.pointer (some ⟨b149, 0 + 2, none⟩)), DetI (.int .i64 ((p_0.Idxs.getD k91 d_Idx).Stage)), DetI (.bool ((i_isStage ((p_0.Idxs.getD k91 d_Idx).Stage)))), DetI (.bool (!(i_isStage ((p_0.Idxs.getD k91 d_Idx).Stage)))), DetI (.bool (!(i_isStage ((p_0.Idxs.getD k91 d_Idx).Stage)))), DetI (.bool (!(i_isStage ((p_0.Idxs.getD k91 d_Idx).Stage)))), DetI (.int .i64 ((k91 : Int))), DetI (.bool (decide (0 < (k91 : Int)))), DetI (.bool (decide (0 < (k91 : Int)))), DetI (undef), DetI (undef), DetI (undef), DetI (undef), DetI (undef), DetI (undef), DetI (undef), DetI (undef), DetI (undef), DetI (undef), DetI (.bool (false)), DetI (.bool (false))]) Try.follows rfl rfl rfl rfl rfl rfl (vgetI_stable ⟨StableI.det _, StableI.det _, StableI.det _, StableI.det _, StableI.det _, StableI.det _, StableI.det _, StableI.det _, StableI.det _, StableI.det _, StableI.det _, StableI.det _, StableI.det _, StableI.det _, StableI.det _, StableI.det _, StableI.det _, StableI.det _, StableI.det _, StableI.det _, StableI.det _, StableI.det _, StableI.det _, StableI.det _, StableI.det _, StableI.det _, StableI.det _, StableI.det _, StableI.det _, StableI.det _, StableI.det _, StableI.det _, StableI.det _, StableI.det _, StableI.det _, StableI.det _, trivial⟩) ⟨?_, ?_, ?_, ?_, ?_, ?_, ?_, ?_, ?_, ?_, ?_, ?_, ?_, ?_, ?_, ?_, ?_, ?_, ?_, ?_, ?_, ?_, ?_, ?_, ?_, ?_, ?_, ?_, ?_, ?_, ?_, ?_, ?_, ?_, ?_, ?_, trivial⟩ ?_
                        · intro L472 w473 hi474
                          have hE475 := hi474.ex
                          have hE475z := Ex.size hE475
                          have hx476 := hi474.old 6 _ rfl rfl
                          exact OpR.op' rfl (Yl.sameI (yl_fieldAddr Try.fd132_0 rfl hx476 ⟨fun _ _ => rfl, rfl⟩))
                        · intro L477 w478 hi479
                          have hE480 := hi479.ex
                          have hE480z := Ex.size hE480
                          obtain ⟨_, _, _, hx481, -, -, -, rfl⟩ := hi479.dep 0 52 rfl rfl
                          have q482 := Box.ex hB156 hE480
                          exact OpR.op' rfl (Yl.sameI (yl_load1 Try.ty9 rfl hx481 ((q482.cell 0).trans rfl) ⟨fun _ _ => rfl, rfl⟩))
                        · intro L483 w484 hi485
                          have hE486 := hi485.ex
                          have hE486z := Ex.size hE486
                          obtain ⟨_, _, _, hx487, -, -, -, rfl⟩ := hi485.dep 1 53 rfl rfl
                          refine OpR.op' rfl (yl_call Try.en142 rfl (opvs_cons hx487 (opvs_cons rfl opvs_nil)) (Cal.mono (c_i_areLetters ((p_0.Idxs.getD k91 d_Idx).Name) 1 (okL.getD o3.2.2 ok_d_Idx _)) ?_))
                          rintro v489 w488 ⟨rfl, hE490⟩
                          exact ⟨rfl, hE490⟩
                        · intro L491 w492 hi493
                          have hE494 := hi493.ex
                          have hE494z := Ex.size hE494
                          obtain ⟨_, _, _, hx495, -, -, -, rfl⟩ := hi493.dep 2 54 rfl rfl
                          exact OpR.op' rfl (Yl.sameI (yl_not rfl hx495 ⟨fun _ _ => rfl, rfl⟩))
                        · intro L496 w497 hi498
                          have hE499 := hi498.ex
                          have hE499z := Ex.size hE499
                          obtain ⟨_, _, _, hx500, -, -, -, rfl⟩ := hi498.dep 3 55 rfl rfl
                          exact OpR.op' rfl (Yl.sameI (yl_move rfl hx500 ⟨fun _ _ => rfl, rfl⟩))
                        · intro L501 w502 hi503
                          have hE504 := hi503.ex
                          have hE504z := Ex.size hE504
                          obtain ⟨_, _, _, hx505, -, -, -, rfl⟩ := hi503.dep 4 56 rfl rfl
                          have hx506 := hi503.old 6 _ rfl rfl
                          exact OpR.want rfl rfl hx505 (not_t hb159) (Yl.sameI (yl_fieldAddr Try.fd132_1 rfl hx506 ⟨fun _ _ => rfl, rfl⟩))
                        · intro L507 w508 hi509
                          have hE510 := hi509.ex
                          have hE510z := Ex.size hE510
                          obtain ⟨_, _, _, hx511, -, -, -, rfl⟩ := hi509.dep 4 56 rfl rfl
                          obtain ⟨_, _, _, hx512, -, -, -, rfl⟩ := hi509.dep 5 57 rfl rfl
                          have q513 := Box.ex hB156 hE510
                          exact OpR.want rfl rfl hx511 (not_t hb159) (Yl.sameI (yl_load1 Try.ty3 rfl hx512 ((q513.cell 1).trans rfl) ⟨fun _ _ => rfl, rfl⟩))
                        · intro L514 w515 hi516
                          have hE517 := hi516.ex
                          have hE517z := Ex.size hE517
                          obtain ⟨_, _, _, hx518, -, -, -, rfl⟩ := hi516.dep 4 56 rfl rfl
                          have hx519 := hi516.old 1 _ rfl rfl
                          exact OpR.want rfl rfl hx518 (not_t hb159) (Yl.sameI (yl_fieldAddr Try.fd35_1 rfl hx519 ⟨fun _ _ => rfl, rfl⟩))
                        · intro L520 w521 hi522
                          have hE523 := hi522.ex
                          have hE523z := Ex.size hE523
                          obtain ⟨_, _, _, hx524, -, -, -, rfl⟩ := hi522.dep 4 56 rfl rfl
                          obtain ⟨_, _, _, hx525, -, -, -, rfl⟩ := hi522.dep 7 59 rfl rfl
                          have q526 := Box.ex q469 hE523
                          exact OpR.want rfl rfl hx524 (not_t hb159) (Yl.sameI (yl_load1 Try.ty22 rfl hx525 ((q526.cell 1).trans rfl) ⟨fun _ _ => rfl, rfl⟩))
                        · intro L527 w528 hi529
                          have hE530 := hi529.ex
                          have hE530z := Ex.size hE530
                          obtain ⟨_, _, _, hx531, -, -, -, rfl⟩ := hi529.dep 4 56 rfl rfl
                          obtain ⟨_, _, _, hx532, -, -, -, rfl⟩ := hi529.dep 8 60 rfl rfl
                          exact OpR.want rfl rfl hx531 (not_t hb159) (Yl.sameI (yl_len Try.un22 rfl hx532 ⟨fun _ _ => rfl, rfl⟩))
                        · intro L533 w534 hi535
                          have hE536 := hi535.ex
                          have hE536z := Ex.size hE536
                          obtain ⟨_, _, _, hx537, -, -, -, rfl⟩ := hi535.dep 4 56 rfl rfl
                          obtain ⟨_, _, _, hx538, -, -, -, rfl⟩ := hi535.dep 9 61 rfl rfl
                          exact OpR.want rfl rfl hx537 (not_t hb159) (Yl.sameI (yl_sub rfl hx538 rfl ⟨fun _ _ => rfl, rfl⟩))
                        · intro L539 w540 hi541
                          have hE542 := hi541.ex
                          have hE542z := Ex.size hE542
                          obtain ⟨_, _, _, hx543, -, -, -, rfl⟩ := hi541.dep 4 56 rfl rfl
                          obtain ⟨_, _, _, hx544, -, -, -, rfl⟩ := hi541.dep 6 58 rfl rfl
                          obtain ⟨_, _, _, hx545, -, -, -, rfl⟩ := hi541.dep 10 62 rfl rfl
                          refine OpR.want rfl rfl hx543 (not_t hb159) (yl_call Try.en129 rfl (opvs_cons hx544 (opvs_cons rfl (opvs_cons hx545 opvs_nil))) (Cal.mono (c_i_within ((p_0.Idxs.getD k91 d_Idx).Col) 1 (IntKind.wrap .i64 ((p_0.Cols.length : Int) - 1))) ?_))
                          rintro v547 w546 ⟨rfl, hE548⟩
                          exact ⟨rfl, hE548⟩
                        · intro L549 w550 hi551
                          have hE552 := hi551.ex
                          have hE552z := Ex.size hE552
                          obtain ⟨_, _, _, hx553, -, -, -, rfl⟩ := hi551.dep 4 56 rfl rfl
                          obtain ⟨_, _, _, hx554, -, -, -, rfl⟩ := hi551.dep 11 63 rfl rfl
                          exact OpR.want rfl rfl hx553 (not_t hb159) (Yl.sameI (yl_not rfl hx554 ⟨fun _ _ => rfl, rfl⟩))
                        · intro L555 w556 hi557
                          have hE558 := hi557.ex
                          have hE558z := Ex.size hE558
                          obtain ⟨_, _, _, hx559, -, -, -, rfl⟩ := hi557.dep 12 64 rfl rfl
                          obtain ⟨_, _, _, hx560, -, -, -, rfl⟩ := hi557.dep 4 56 rfl rfl
                          exact OpR.op' rfl (Yl.sameI (yl_pick_f rfl hx560 (not_t hb159) hx559 ⟨fun _ _ => rfl, rfl⟩))
                        · intro L561 w562 hi563
                          have hE564 := hi563.ex
                          have hE564z := Ex.size hE564
                          obtain ⟨_, _, _, hx565, -, -, -, rfl⟩ := hi563.dep 13 65 rfl rfl
                          exact OpR.op' rfl (Yl.sameI (yl_move rfl hx565 ⟨fun _ _ => rfl, rfl⟩))
                        · intro L566 w567 hi568
                          have hE569 := hi568.ex
                          have hE569z := Ex.size hE569
                          obtain ⟨_, _, _, hx570, -, -, -, rfl⟩ := hi568.dep 14 66 rfl rfl
                          have hx571 := hi568.old 6 _ rfl rfl
                          exact OpR.want rfl rfl hx570 (not_t hb164) (Yl.sameI (yl_fieldAddr Try.fd132_2 rfl hx571 ⟨fun _ _ => rfl, rfl⟩))
                        · intro L572 w573 hi574
                          have hE575 := hi574.ex
                          have hE575z := Ex.size hE575
                          obtain ⟨_, _, _, hx576, -, -, -, rfl⟩ := hi574.dep 14 66 rfl rfl
                          obtain ⟨_, _, _, hx577, -, -, -, rfl⟩ := hi574.dep 15 67 rfl rfl
                          have q578 := Box.ex hB156 hE575
                          exact OpR.want rfl rfl hx576 (not_t hb164) (Yl.sameI (yl_load1 Try.ty3 rfl hx577 ((q578.cell 2).trans rfl) ⟨fun _ _ => rfl, rfl⟩))
                        · intro L579 w580 hi581
                          have hE582 := hi581.ex
                          have hE582z := Ex.size hE582
                          obtain ⟨_, _, _, hx583, -, -, -, rfl⟩ := hi581.dep 14 66 rfl rfl
                          obtain ⟨_, _, _, hx584, -, -, -, rfl⟩ := hi581.dep 16 68 rfl rfl
                          refine OpR.want rfl rfl hx583 (not_t hb164) (yl_call Try.en108 rfl (opvs_cons hx584 opvs_nil) (Cal.mono (c_i_isStage ((p_0.Idxs.getD k91 d_Idx).Stage)) ?_))
                          rintro v586 w585 ⟨rfl, hE587⟩
                          exact ⟨rfl, hE587⟩
                        · intro L588 w589 hi590
                          have hE591 := hi590.ex
                          have hE591z := Ex.size hE591
                          obtain ⟨_, _, _, hx592, -, -, -, rfl⟩ := hi590.dep 14 66 rfl rfl
                          obtain ⟨_, _, _, hx593, -, -, -, rfl⟩ := hi590.dep 17 69 rfl rfl
                          exact OpR.want rfl rfl hx592 (not_t hb164) (Yl.sameI (yl_not rfl hx593 ⟨fun _ _ => rfl, rfl⟩))
                        · intro L594 w595 hi596
                          have hE597 := hi596.ex
                          have hE597z := Ex.size hE597
                          obtain ⟨_, _, _, hx598, -, -, -, rfl⟩ := hi596.dep 18 70 rfl rfl
                          obtain ⟨_, _, _, hx599, -, -, -, rfl⟩ := hi596.dep 14 66 rfl rfl
                          exact OpR.op' rfl (Yl.sameI (yl_pick_f rfl hx599 (not_t hb164) hx598 ⟨fun _ _ => rfl, rfl⟩))
                        · intro L600 w601 hi602
                          have hE603 := hi602.ex
                          have hE603z := Ex.size hE603
                          obtain ⟨_, _, _, hx604, -, -, -, rfl⟩ := hi602.dep 19 71 rfl rfl
                          exact OpR.op' rfl (Yl.sameI (yl_move rfl hx604 ⟨fun _ _ => rfl, rfl⟩))
                        · intro L605 w606 hi607
                          have hE608 := hi607.ex
                          have hE608z := Ex.size hE608
                          obtain ⟨_, _, _, hx609, -, -, -, rfl⟩ := hi607.dep 20 72 rfl rfl
                          have hx610 := hi607.old 5 _ rfl rfl
                          exact OpR.want rfl rfl hx609 (not_t hb170) (Yl.sameI (yl_move rfl hx610 ⟨fun _ _ => rfl, rfl⟩))
                        · intro L611 w612 hi613
                          have hE614 := hi613.ex
                          have hE614z := Ex.size hE614
                          obtain ⟨_, _, _, hx615, -, -, -, rfl⟩ := hi613.dep 20 72 rfl rfl
                          obtain ⟨_, _, _, hx616, -, -, -, rfl⟩ := hi613.dep 21 73 rfl rfl
                          exact OpR.want rfl rfl hx615 (not_t hb170) (Yl.sameI (yl_gtr rfl hx616 rfl ⟨fun _ _ => rfl, rfl⟩))
                        · intro L617 w618 hi619
                          have hE620 := hi619.ex
                          have hE620z := Ex.size hE620
                          obtain ⟨_, _, _, hx621, -, -, -, rfl⟩ := hi619.dep 20 72 rfl rfl
                          obtain ⟨_, _, _, hx622, -, -, -, rfl⟩ := hi619.dep 22 74 rfl rfl
                          exact OpR.want rfl rfl hx621 (not_t hb170) (Yl.sameI (yl_move rfl hx622 ⟨fun _ _ => rfl, rfl⟩))
                        · intro L623 w624 hi625
                          have hE626 := hi625.ex
                          have hE626z := Ex.size hE626
                          obtain ⟨_, _, _, hx627, -, -, -, rfl⟩ := hi625.dep 23 75 rfl rfl
                          exact OpR.skip rfl rfl hx627 hb176 ⟨rfl, Ex.refl _⟩
                        · intro L628 w629 hi630
                          have hE631 := hi630.ex
                          have hE631z := Ex.size hE631
                          obtain ⟨_, _, _, hx632, -, -, -, rfl⟩ := hi630.dep 23 75 rfl rfl
                          exact OpR.skip rfl rfl hx632 hb176 ⟨rfl, Ex.refl _⟩
                        · intro L633 w634 hi635
                          have hE636 := hi635.ex
                          have hE636z := Ex.size hE636
                          obtain ⟨_, _, _, hx637, -, -, -, rfl⟩ := hi635.dep 23 75 rfl rfl
                          exact OpR.skip rfl rfl hx637 hb176 ⟨rfl, Ex.refl _⟩
                        · intro L638 w639 hi640
                          have hE641 := hi640.ex
                          have hE641z := Ex.size hE641
                          obtain ⟨_, _, _, hx642, -, -, -, rfl⟩ := hi640.dep 23 75 rfl rfl
                          exact OpR.skip rfl rfl hx642 hb176 ⟨rfl, Ex.refl _⟩
                        · intro L643 w644 hi645
                          have hE646 := hi645.ex
                          have hE646z := Ex.size hE646
                          obtain ⟨_, _, _, hx647, -, -, -, rfl⟩ := hi645.dep 23 75 rfl rfl
                          exact OpR.skip rfl rfl hx647 hb176 ⟨rfl, Ex.refl _⟩
                        · intro L648 w649 hi650
                          have hE651 := hi650.ex
                          have hE651z := Ex.size hE651
                          obtain ⟨_, _, _, hx652, -, -, -, rfl⟩ := hi650.dep 23 75 rfl rfl
                          exact OpR.skip rfl rfl hx652 hb176 ⟨rfl, Ex.refl _⟩
                        · intro L653 w654 hi655
                          have hE656 := hi655.ex
                          have hE656z := Ex.size hE656
                          obtain ⟨_, _, _, hx657, -, -, -, rfl⟩ := hi655.dep 23 75 rfl rfl
                          exact OpR.skip rfl rfl hx657 hb176 ⟨rfl, Ex.refl _⟩
                        · intro L658 w659 hi660
                          have hE661 := hi660.ex
                          have hE661z := Ex.size hE661
                          obtain ⟨_, _, _, hx662, -, -, -, rfl⟩ := hi660.dep 23 75 rfl rfl
                          exact OpR.skip rfl rfl hx662 hb176 ⟨rfl, Ex.refl _⟩
                        · intro L663 w664 hi665
                          have hE666 := hi665.ex
                          have hE666z := Ex.size hE666
                          obtain ⟨_, _, _, hx667, -, -, -, rfl⟩ := hi665.dep 23 75 rfl rfl
                          exact OpR.skip rfl rfl hx667 hb176 ⟨rfl, Ex.refl _⟩
                        · intro L668 w669 hi670
                          have hE671 := hi670.ex
                          have hE671z := Ex.size hE671
                          obtain ⟨_, _, _, hx672, -, -, -, rfl⟩ := hi670.dep 23 75 rfl rfl
                          exact OpR.skip rfl rfl hx672 hb176 ⟨rfl, Ex.refl _⟩
                        · intro L673 w674 hi675
                          have hE676 := hi675.ex
                          have hE676z := Ex.size hE676
                          obtain ⟨_, _, _, hx677, -, -, -, rfl⟩ := hi675.dep 20 72 rfl rfl
                          obtain ⟨_, _, _, hx678, -, -, -, rfl⟩ := hi675.dep 33 85 rfl rfl
                          obtain ⟨_, _, _, hx679, -, -, -, rfl⟩ := hi675.dep 23 75 rfl rfl
                          exact OpR.want rfl rfl hx677 (not_t hb170) (Yl.sameI (yl_pick_f rfl hx679 hb176 rfl ⟨fun _ _ => rfl, rfl⟩))
                        · intro L680 w681 hi682
                          have hE683 := hi682.ex
                          have hE683z := Ex.size hE683
                          obtain ⟨_, _, _, hx684, -, -, -, rfl⟩ := hi682.dep 34 86 rfl rfl
                          obtain ⟨_, _, _, hx685, -, -, -, rfl⟩ := hi682.dep 20 72 rfl rfl
                          exact OpR.op' rfl (Yl.sameI (yl_pick_f rfl hx685 (not_t hb170) hx684 ⟨fun _ _ => rfl, rfl⟩))
                        · intro fl689 fh690 L686 w687 hp688
                          have hE691 := hp688.ex
                          have hE691z := Ex.size hE691
                          have hx692 := hp688.old 1 _ rfl rfl
                          have hx693 := hp688.old 45 _ rfl rfl
                          have hx694 := hp688.old 46 _ rfl rfl
                          have hx695 := hp688.old 47 _ rfl rfl
                          obtain ⟨_, hx696, rfl⟩ := hp688.new 5 57 rfl rfl
                          obtain ⟨_, hx697, rfl⟩ := hp688.new 6 58 rfl rfl
                          obtain ⟨_, hx698, rfl⟩ := hp688.new 7 59 rfl rfl
                          obtain ⟨_, hx699, rfl⟩ := hp688.new 8 60 rfl rfl
                          obtain ⟨_, hx700, rfl⟩ := hp688.new 9 61 rfl rfl
                          obtain ⟨_, hx701, rfl⟩ := hp688.new 10 62 rfl rfl
                          obtain ⟨_, hx702, rfl⟩ := hp688.new 11 63 rfl rfl
                          obtain ⟨_, hx703, rfl⟩ := hp688.new 12 64 rfl rfl
                          obtain ⟨_, hx704, rfl⟩ := hp688.new 15 67 rfl rfl
                          obtain ⟨_, hx705, rfl⟩ := hp688.new 16 68 rfl rfl
                          obtain ⟨_, hx706, rfl⟩ := hp688.new 17 69 rfl rfl
                          obtain ⟨_, hx707, rfl⟩ := hp688.new 18 70 rfl rfl
                          obtain ⟨_, hx708, rfl⟩ := hp688.new 21 73 rfl rfl
                          obtain ⟨_, hx709, rfl⟩ := hp688.new 22 74 rfl rfl
                          obtain ⟨_, hx710, rfl⟩ := hp688.new 23 75 rfl rfl
                          obtain ⟨_, hx711, rfl⟩ := hp688.new 24 76 rfl rfl
                          obtain ⟨_, hx712, rfl⟩ := hp688.new 25 77 rfl rfl
                          obtain ⟨_, hx713, rfl⟩ := hp688.new 26 78 rfl rfl
                          obtain ⟨_, hx714, rfl⟩ := hp688.new 27 79 rfl rfl
                          obtain ⟨_, hx715, rfl⟩ := hp688.new 28 80 rfl rfl
                          obtain ⟨_, hx716, rfl⟩ := hp688.new 29 81 rfl rfl
                          obtain ⟨_, hx717, rfl⟩ := hp688.new 30 82 rfl rfl
                          obtain ⟨_, hx718, rfl⟩ := hp688.new 31 83 rfl rfl
                          obtain ⟨_, hx719, rfl⟩ := hp688.new 32 84 rfl rfl
                          obtain ⟨_, hx720, rfl⟩ := hp688.new 33 85 rfl rfl
                          obtain ⟨_, hx721, rfl⟩ := hp688.new 34 86 rfl rfl
                          obtain ⟨_, hx722, rfl⟩ := hp688.new 35 87 rfl rfl
                          refine SeqR.done ?_
                          refine tn ?_
                          refine CW.sub (Sub.cons (d := 1) hx692 (Sub.cons (d := 45) hx693 (Sub.cons (d := 46) hx694 (Sub.cons (d := 47) hx695 (Sub.cons (d := 57) hx696 (Sub.cons (d := 58) hx697 (Sub.cons (d := 59) hx698 (Sub.cons (d := 60) hx699 (Sub.cons (d := 61) hx700 (Sub.cons (d := 62) hx701 (Sub.cons (d := 63) hx702 (Sub.cons (d := 64) hx703 (Sub.cons (d := 67) hx704 (Sub.cons (d := 68) hx705 (Sub.cons (d := 69) hx706 (Sub.cons (d := 70) hx707 (Sub.cons (d := 73) hx708 (Sub.cons (d := 74) hx709 (Sub.cons (d := 75) hx710 (Sub.cons (d := 76) hx711 (Sub.cons (d := 77) hx712 (Sub.cons (d := 78) hx713 (Sub.cons (d := 79) hx714 (Sub.cons (d := 80) hx715 (Sub.cons (d := 81) hx716 (Sub.cons (d := 82) hx717 (Sub.cons (d := 83) hx718 (Sub.cons (d := 84) hx719 (Sub.cons (d := 85) hx720 (Sub.cons (d := 86) hx721 (Sub.cons (d := 87) hx722 (Sub.nil _)))))))))))))))))))))))))))))))) ?_
                          refine CW.cond_f rfl rfl ?_
                          refine CW.skip ?_
                          refine bn ?_
                          refine tn ?_
                          refine CW.region ?_
                          refine SeqR.d1 rfl rfl rfl (yl_inc rfl rfl rfl (by omega) ?_)
                          refine SeqR.d1 rfl rfl rfl (yl_move rfl rfl ?_)
                          refine SeqR.done ?_
                          refine tn ?_
                          have hB723 : B_i_GoodTable_1 p_0 k91 () = .cont () := by simp only [B_i_GoodTable_1, hb16, hb21, hb23, hb159, hb164, hb170, hb176, hL90, cond_true, cond_false, loopE_done, loopE_ret]
                          have q724 := Box.ex q469 hE691
                          have q725 := RdS.ex good_Str hf143 hE154
                          have q726 := RdS.only good_Str q725 hO157 (by simp only [Iv]; omega)
                          have q727 := RdS.ex good_Str q726 hE691
                          have q728 := RdS.ex good_Idx hf144 hE154
                          have q729 := RdS.only good_Idx q728 hO157 (by simp only [Iv]; omega)
                          have q730 := RdS.ex good_Idx q729 hE691
                          have q731 := Ex.trans hf145 hE154
                          have q732 := Below.only q731 hO157 (by omega)
                          have q733 := Ex.trans q732 hE691
                          exact ⟨p_0.Idxs.length - (k91 + 1), by omega, k91 + 1, rfl, hlt147, (by omega), rfl, rfl, rfl, rfl, q724, q727, q730, q733, (loopM.cont hlt147 hB723).symm.trans hI136⟩
                    · skip
                      have q735 := Box.ex hf142 hE154
                      have q736 := Box.only q735 hO157 (by omega)
                      refine CW.drawsI 36 (vgetI [DetI (.pointer (some ⟨b149, 0 + 0, none⟩)), DetI (.string (bs ((p_0.Idxs.getD k91 d_Idx).Name))), DetI (.bool ((i_areLetters ((p_0.Idxs.getD k91 d_Idx).Name) 1))), DetI (.bool (!(i_areLetters ((p_0.Idxs.getD k91 d_Idx).Name) 1))), DetI (.bool (!(i_areLetters ((p_0.Idxs.getD k91 d_Idx).Name) 1))), DetI (.pointer (some ⟨b149, 0 + 1, none⟩)), DetI (.int .i64 ((p_0.Idxs.getD k91 d_Idx).Col)), DetI (.pointer (some ⟨b7, 0 + 1, none⟩)), DetI (.slice A1 p_0.Cols.length c1), DetI (.int .i64 ((p_0.Cols.length : Int))), DetI (.int .i64 (IntKind.wrap .i64 ((p_0.Cols.length : Int) - 1))), DetI (.bool ((i_within ((p_0.Idxs.getD k91 d_Idx).Col) 1 (IntKind.wrap .i64 ((p_0.Cols.length : Int) - 1))))), DetI (.bool (!(i_within ((p_0.Idxs.getD k91 d_Idx).Col) 1 (IntKind.wrap .i64 ((p_0.Cols.length : Int) - 1))))), DetI (.bool (!(i_within ((p_0.Idxs.getD k91 d_Idx).Col) 1 (IntKind.wrap .i64 ((p_0.Cols.length : Int) - 1))))), DetI (.bool (!(i_within ((p_0.Idxs.getD k91 d_Idx).Col) 1 (IntKind.wrap .i64 ((p_0.Cols.length : Int) - 1))))), DetI (.pointer (some ⟨b149, 0 + 2, none⟩)), DetI (.int .i64 ((p_0.Idxs.getD k91 d_Idx).Stage)), DetI (.bool ((i_isStage ((p_0.Idxs.getD k91 d_Idx).Stage)))), DetI (.bool (!(i_isStage ((p_0.Idxs.getD k91 d_Idx).Stage)))), DetI (.bool (!(i_isStage ((p_0.Idxs.getD k91 d_Idx).Stage)))), DetI (.bool (!(i_isStage ((p_0.Idxs.getD k91 d_Idx).Stage)))), DetI (undef), DetI (undef), DetI (undef), DetI (undef), DetI (undef), DetI (undef), DetI (undef), DetI (undef), DetI (undef), DetI (undef), DetI (undef), DetI (undef), DetI (undef), DetI (undef), DetI (.bool (true))]) Try.follows rfl rfl rfl rfl rfl rfl (vgetI_stable ⟨StableI.det _, StableI.det _, StableI.det _, StableI.det _, StableI.det _, StableI.det _, StableI.det _, StableI.det _, StableI.det _, StableI.det _, StableI.det _, StableI.det _, StableI.det _, StableI.det _, StableI.det _, StableI.det _, StableI.det _, StableI.det _, StableI.det _, StableI.det _, StableI.det _, StableI.det _, StableI.det _, StableI.det _, StableI.det _, StableI.det _, StableI.det _, StableI.det _, StableI.det _, StableI.det _, StableI.det _, StableI.det _, StableI.det _, StableI.det _, StableI.det _, StableI.det _, trivial⟩) ⟨?_, ?_, ?_, ?_, ?_, ?_, ?_, ?_, ?_, ?_, ?_, ?_, ?_, ?_, ?_, ?_, ?_, ?_, ?_, ?_, ?_, ?_, ?_, ?_, ?_, ?_, ?_, ?_, ?_, ?_, ?_, ?_, ?_, ?_, ?_, ?_, trivial⟩ ?_
                      · intro L739 w740 hi741
                        have hE742 := hi741.ex
                        have hE742z := Ex.size hE742
                        have hx743 := hi741.old 6 _ rfl rfl
                        exact OpR.op' rfl (Yl.sameI (yl_fieldAddr Try.fd132_0 rfl hx743 ⟨fun _ _ => rfl, rfl⟩))
                      · intro L744 w745 hi746
                        have hE747 := hi746.ex
                        have hE747z := Ex.size hE747
                        obtain ⟨_, _, _, hx748, -, -, -, rfl⟩ := hi746.dep 0 52 rfl rfl
                        have q749 := Box.ex hB156 hE747
                        exact OpR.op' rfl (Yl.sameI (yl_load1 Try.ty9 rfl hx748 ((q749.cell 0).trans rfl) ⟨fun _ _ => rfl, rfl⟩))
                      · intro L750 w751 hi752
                        have hE753 := hi752.ex
                        have hE753z := Ex.size hE753
                        obtain ⟨_, _, _, hx754, -, -, -, rfl⟩ := hi752.dep 1 53 rfl rfl
                        refine OpR.op' rfl (yl_call Try.en142 rfl (opvs_cons hx754 (opvs_cons rfl opvs_nil)) (Cal.mono (c_i_areLetters ((p_0.Idxs.getD k91 d_Idx).Name) 1 (okL.getD o3.2.2 ok_d_Idx _)) ?_))
                        rintro v756 w755 ⟨rfl, hE757⟩
                        exact ⟨rfl, hE757⟩
                      · intro L758 w759 hi760
                        have hE761 := hi760.ex
                        have hE761z := Ex.size hE761
                        obtain ⟨_, _, _, hx762, -, -, -, rfl⟩ := hi760.dep 2 54 rfl rfl
                        exact OpR.op' rfl (Yl.sameI (yl_not rfl hx762 ⟨fun _ _ => rfl, rfl⟩))
                      · intro L763 w764 hi765
                        have hE766 := hi765.ex
                        have hE766z := Ex.size hE766
                        obtain ⟨_, _, _, hx767, -, -, -, rfl⟩ := hi765.dep 3 55 rfl rfl
                        exact OpR.op' rfl (Yl.sameI (yl_move rfl hx767 ⟨fun _ _ => rfl, rfl⟩))
                      · intro L768 w769 hi770
                        have hE771 := hi770.ex
                        have hE771z := Ex.size hE771
                        obtain ⟨_, _, _, hx772, -, -, -, rfl⟩ := hi770.dep 4 56 rfl rfl
                        have hx773 := hi770.old 6 _ rfl rfl
                        exact OpR.want rfl rfl hx772 (not_t hb159) (Yl.sameI (yl_fieldAddr Try.fd132_1 rfl hx773 ⟨fun _ _ => rfl, rfl⟩))
                      · intro L774 w775 hi776
                        have hE777 := hi776.ex
                        have hE777z := Ex.size hE777
                        obtain ⟨_, _, _, hx778, -, -, -, rfl⟩ := hi776.dep 4 56 rfl rfl
                        obtain ⟨_, _, _, hx779, -, -, -, rfl⟩ := hi776.dep 5 57 rfl rfl
                        have q780 := Box.ex hB156 hE777
                        exact OpR.want rfl rfl hx778 (not_t hb159) (Yl.sameI (yl_load1 Try.ty3 rfl hx779 ((q780.cell 1).trans rfl) ⟨fun _ _ => rfl, rfl⟩))
                      · intro L781 w782 hi783
                        have hE784 := hi783.ex
                        have hE784z := Ex.size hE784
                        obtain ⟨_, _, _, hx785, -, -, -, rfl⟩ := hi783.dep 4 56 rfl rfl
                        have hx786 := hi783.old 1 _ rfl rfl
                        exact OpR.want rfl rfl hx785 (not_t hb159) (Yl.sameI (yl_fieldAddr Try.fd35_1 rfl hx786 ⟨fun _ _ => rfl, rfl⟩))
                      · intro L787 w788 hi789
                        have hE790 := hi789.ex
                        have hE790z := Ex.size hE790
                        obtain ⟨_, _, _, hx791, -, -, -, rfl⟩ := hi789.dep 4 56 rfl rfl
                        obtain ⟨_, _, _, hx792, -, -, -, rfl⟩ := hi789.dep 7 59 rfl rfl
                        have q793 := Box.ex q736 hE790
                        exact OpR.want rfl rfl hx791 (not_t hb159) (Yl.sameI (yl_load1 Try.ty22 rfl hx792 ((q793.cell 1).trans rfl) ⟨fun _ _ => rfl, rfl⟩))
                      · intro L794 w795 hi796
                        have hE797 := hi796.ex
                        have hE797z := Ex.size hE797
                        obtain ⟨_, _, _, hx798, -, -, -, rfl⟩ := hi796.dep 4 56 rfl rfl
                        obtain ⟨_, _, _, hx799, -, -, -, rfl⟩ := hi796.dep 8 60 rfl rfl
                        exact OpR.want rfl rfl hx798 (not_t hb159) (Yl.sameI (yl_len Try.un22 rfl hx799 ⟨fun _ _ => rfl, rfl⟩))
                      · intro L800 w801 hi802
                        have hE803 := hi802.ex
                        have hE803z := Ex.size hE803
                        obtain ⟨_, _, _, hx804, -, -, -, rfl⟩ := hi802.dep 4 56 rfl rfl
                        obtain ⟨_, _, _, hx805, -, -, -, rfl⟩ := hi802.dep 9 61 rfl rfl
                        exact OpR.want rfl rfl hx804 (not_t hb159) (Yl.sameI (yl_sub rfl hx805 rfl ⟨fun _ _ => rfl, rfl⟩))
                      · intro L806 w807 hi808
                        have hE809 := hi808.ex
                        have hE809z := Ex.size hE809
                        obtain ⟨_, _, _, hx810, -, -, -, rfl⟩ := hi808.dep 4 56 rfl rfl
                        obtain ⟨_, _, _, hx811, -, -, -, rfl⟩ := hi808.dep 6 58 rfl rfl
                        obtain ⟨_, _, _, hx812, -, -, -, rfl⟩ := hi808.dep 10 62 rfl rfl
                        refine OpR.want rfl rfl hx810 (not_t hb159) (yl_call Try.en129 rfl (opvs_cons hx811 (opvs_cons rfl (opvs_cons hx812 opvs_nil))) (Cal.mono (c_i_within ((p_0.Idxs.getD k91 d_Idx).Col) 1 (IntKind.wrap .i64 ((p_0.Cols.length : Int) - 1))) ?_))
                        rintro v814 w813 ⟨rfl, hE815⟩
                        exact ⟨rfl, hE815⟩
                      · intro L816 w817 hi818
                        have hE819 := hi818.ex
                        have hE819z := Ex.size hE819
                        obtain ⟨_, _, _, hx820, -, -, -, rfl⟩ := hi818.dep 4 56 rfl rfl
                        obtain ⟨_, _, _, hx821, -, -, -, rfl⟩ := hi818.dep 11 63 rfl rfl
                        exact OpR.want rfl rfl hx820 (not_t hb159) (Yl.sameI (yl_not rfl hx821 ⟨fun _ _ => rfl, rfl⟩))
                      · intro L822 w823 hi824
                        have hE825 := hi824.ex
                        have hE825z := Ex.size hE825
                        obtain ⟨_, _, _, hx826, -, -, -, rfl⟩ := hi824.dep 12 64 rfl rfl
                        obtain ⟨_, _, _, hx827, -, -, -, rfl⟩ := hi824.dep 4 56 rfl rfl
                        exact OpR.op' rfl (Yl.sameI (yl_pick_f rfl hx827 (not_t hb159) hx826 ⟨fun _ _ => rfl, rfl⟩))
                      · intro L828 w829 hi830
                        have hE831 := hi830.ex
                        have hE831z := Ex.size hE831
                        obtain ⟨_, _, _, hx832, -, -, -, rfl⟩ := hi830.dep 13 65 rfl rfl
                        exact OpR.op' rfl (Yl.sameI (yl_move rfl hx832 ⟨fun _ _ => rfl, rfl⟩))
                      · intro L833 w834 hi835
                        have hE836 := hi835.ex
                        have hE836z := Ex.size hE836
                        obtain ⟨_, _, _, hx837, -, -, -, rfl⟩ := hi835.dep 14 66 rfl rfl
                        have hx838 := hi835.old 6 _ rfl rfl
                        exact OpR.want rfl rfl hx837 (not_t hb164) (Yl.sameI (yl_fieldAddr Try.fd132_2 rfl hx838 ⟨fun _ _ => rfl, rfl⟩))
                      · intro L839 w840 hi841
                        have hE842 := hi841.ex
                        have hE842z := Ex.size hE842
                        obtain ⟨_, _, _, hx843, -, -, -, rfl⟩ := hi841.dep 14 66 rfl rfl
                        obtain ⟨_, _, _, hx844, -, -, -, rfl⟩ := hi841.dep 15 67 rfl rfl
                        have q845 := Box.ex hB156 hE842
                        exact OpR.want rfl rfl hx843 (not_t hb164) (Yl.sameI (yl_load1 Try.ty3 rfl hx844 ((q845.cell 2).trans rfl) ⟨fun _ _ => rfl, rfl⟩))
                      · intro L846 w847 hi848
                        have hE849 := hi848.ex
                        have hE849z := Ex.size hE849
                        obtain ⟨_, _, _, hx850, -, -, -, rfl⟩ := hi848.dep 14 66 rfl rfl
                        obtain ⟨_, _, _, hx851, -, -, -, rfl⟩ := hi848.dep 16 68 rfl rfl
                        refine OpR.want rfl rfl hx850 (not_t hb164) (yl_call Try.en108 rfl (opvs_cons hx851 opvs_nil) (Cal.mono (c_i_isStage ((p_0.Idxs.getD k91 d_Idx).Stage)) ?_))
                        rintro v853 w852 ⟨rfl, hE854⟩
                        exact ⟨rfl, hE854⟩
                      · intro L855 w856 hi857
                        have hE858 := hi857.ex
                        have hE858z := Ex.size hE858
                        obtain ⟨_, _, _, hx859, -, -, -, rfl⟩ := hi857.dep 14 66 rfl rfl
                        obtain ⟨_, _, _, hx860, -, -, -, rfl⟩ := hi857.dep 17 69 rfl rfl
                        exact OpR.want rfl rfl hx859 (not_t hb164) (Yl.sameI (yl_not rfl hx860 ⟨fun _ _ => rfl, rfl⟩))
                      · intro L861 w862 hi863
                        have hE864 := hi863.ex
                        have hE864z := Ex.size hE864
                        obtain ⟨_, _, _, hx865, -, -, -, rfl⟩ := hi863.dep 18 70 rfl rfl
                        obtain ⟨_, _, _, hx866, -, -, -, rfl⟩ := hi863.dep 14 66 rfl rfl
                        exact OpR.op' rfl (Yl.sameI (yl_pick_f rfl hx866 (not_t hb164) hx865 ⟨fun _ _ => rfl, rfl⟩))
                      · intro L867 w868 hi869
                        have hE870 := hi869.ex
                        have hE870z := Ex.size hE870
                        obtain ⟨_, _, _, hx871, -, -, -, rfl⟩ := hi869.dep 19 71 rfl rfl
                        exact OpR.op' rfl (Yl.sameI (yl_move rfl hx871 ⟨fun _ _ => rfl, rfl⟩))
                      · intro L872 w873 hi874
                        have hE875 := hi874.ex
                        have hE875z := Ex.size hE875
                        obtain ⟨_, _, _, hx876, -, -, -, rfl⟩ := hi874.dep 20 72 rfl rfl
                        exact OpR.skip rfl rfl hx876 (not_f hb170) ⟨rfl, Ex.refl _⟩
                      · intro L877 w878 hi879
                        have hE880 := hi879.ex
                        have hE880z := Ex.size hE880
                        obtain ⟨_, _, _, hx881, -, -, -, rfl⟩ := hi879.dep 20 72 rfl rfl
                        exact OpR.skip rfl rfl hx881 (not_f hb170) ⟨rfl, Ex.refl _⟩
                      · intro L882 w883 hi884
                        have hE885 := hi884.ex
                        have hE885z := Ex.size hE885
                        obtain ⟨_, _, _, hx886, -, -, -, rfl⟩ := hi884.dep 20 72 rfl rfl
                        exact OpR.skip rfl rfl hx886 (not_f hb170) ⟨rfl, Ex.refl _⟩
                      · intro L887 w888 hi889
                        have hE890 := hi889.ex
                        have hE890z := Ex.size hE890
                        obtain ⟨_, _, _, hx891, -, -, -, rfl⟩ := hi889.dep 23 75 rfl rfl
                        exact OpR.undef rfl rfl hx891 ⟨rfl, Ex.refl _⟩
                      · intro L892 w893 hi894
                        have hE895 := hi894.ex
                        have hE895z := Ex.size hE895
                        obtain ⟨_, _, _, hx896, -, -, -, rfl⟩ := hi894.dep 23 75 rfl rfl
                        exact OpR.undef rfl rfl hx896 ⟨rfl, Ex.refl _⟩
                      · intro L897 w898 hi899
                        have hE900 := hi899.ex
                        have hE900z := Ex.size hE900
                        obtain ⟨_, _, _, hx901, -, -, -, rfl⟩ := hi899.dep 23 75 rfl rfl
                        exact OpR.undef rfl rfl hx901 ⟨rfl, Ex.refl _⟩
                      · intro L902 w903 hi904
                        have hE905 := hi904.ex
                        have hE905z := Ex.size hE905
                        obtain ⟨_, _, _, hx906, -, -, -, rfl⟩ := hi904.dep 23 75 rfl rfl
                        exact OpR.undef rfl rfl hx906 ⟨rfl, Ex.refl _⟩
                      · intro L907 w908 hi909
                        have hE910 := hi909.ex
                        have hE910z := Ex.size hE910
                        obtain ⟨_, _, _, hx911, -, -, -, rfl⟩ := hi909.dep 23 75 rfl rfl
                        exact OpR.undef rfl rfl hx911 ⟨rfl, Ex.refl _⟩
                      · intro L912 w913 hi914
                        have hE915 := hi914.ex
                        have hE915z := Ex.size hE915
                        obtain ⟨_, _, _, hx916, -, -, -, rfl⟩ := hi914.dep 23 75 rfl rfl
                        exact OpR.undef rfl rfl hx916 ⟨rfl, Ex.refl _⟩
                      · intro L917 w918 hi919
                        have hE920 := hi919.ex
                        have hE920z := Ex.size hE920
                        obtain ⟨_, _, _, hx921, -, -, -, rfl⟩ := hi919.dep 23 75 rfl rfl
                        exact OpR.undef rfl rfl hx921 ⟨rfl, Ex.refl _⟩
                      · intro L922 w923 hi924
                        have hE925 := hi924.ex
                        have hE925z := Ex.size hE925
                        obtain ⟨_, _, _, hx926, -, -, -, rfl⟩ := hi924.dep 23 75 rfl rfl
                        exact OpR.undef rfl rfl hx926 ⟨rfl, Ex.refl _⟩
                      · intro L927 w928 hi929
                        have hE930 := hi929.ex
                        have hE930z := Ex.size hE930
                        obtain ⟨_, _, _, hx931, -, -, -, rfl⟩ := hi929.dep 23 75 rfl rfl
                        exact OpR.undef rfl rfl hx931 ⟨rfl, Ex.refl _⟩
                      · intro L932 w933 hi934
                        have hE935 := hi934.ex
                        have hE935z := Ex.size hE935
                        obtain ⟨_, _, _, hx936, -, -, -, rfl⟩ := hi934.dep 23 75 rfl rfl
                        exact OpR.undef rfl rfl hx936 ⟨rfl, Ex.refl _⟩
                      · intro L937 w938 hi939
                        have hE940 := hi939.ex
                        have hE940z := Ex.size hE940
                        obtain ⟨_, _, _, hx941, -, -, -, rfl⟩ := hi939.dep 20 72 rfl rfl
                        exact OpR.skip rfl rfl hx941 (not_f hb170) ⟨rfl, Ex.refl _⟩
                      · intro L942 w943 hi944
                        have hE945 := hi944.ex
                        have hE945z := Ex.size hE945
                        obtain ⟨_, _, _, hx946, -, -, -, rfl⟩ := hi944.dep 34 86 rfl rfl
                        obtain ⟨_, _, _, hx947, -, -, -, rfl⟩ := hi944.dep 20 72 rfl rfl
                        exact OpR.op' rfl (Yl.sameI (yl_pick_t rfl hx947 (not_f hb170) rfl ⟨fun _ _ => rfl, rfl⟩))
                      · intro fl951 fh952 L948 w949 hp950
                        have hE953 := hp950.ex
                        have hE953z := Ex.size hE953
                        have hx954 := hp950.old 1 _ rfl rfl
                        have hx955 := hp950.old 45 _ rfl rfl
                        have hx956 := hp950.old 46 _ rfl rfl
                        have hx957 := hp950.old 47 _ rfl rfl
                        obtain ⟨_, hx958, rfl⟩ := hp950.new 5 57 rfl rfl
                        obtain ⟨_, hx959, rfl⟩ := hp950.new 6 58 rfl rfl
                        obtain ⟨_, hx960, rfl⟩ := hp950.new 7 59 rfl rfl
                        obtain ⟨_, hx961, rfl⟩ := hp950.new 8 60 rfl rfl
                        obtain ⟨_, hx962, rfl⟩ := hp950.new 9 61 rfl rfl
                        obtain ⟨_, hx963, rfl⟩ := hp950.new 10 62 rfl rfl
                        obtain ⟨_, hx964, rfl⟩ := hp950.new 11 63 rfl rfl
                        obtain ⟨_, hx965, rfl⟩ := hp950.new 12 64 rfl rfl
                        obtain ⟨_, hx966, rfl⟩ := hp950.new 15 67 rfl rfl
                        obtain ⟨_, hx967, rfl⟩ := hp950.new 16 68 rfl rfl
                        obtain ⟨_, hx968, rfl⟩ := hp950.new 17 69 rfl rfl
                        obtain ⟨_, hx969, rfl⟩ := hp950.new 18 70 rfl rfl
                        obtain ⟨_, hx970, rfl⟩ := hp950.new 21 73 rfl rfl
                        obtain ⟨_, hx971, rfl⟩ := hp950.new 22 74 rfl rfl
                        obtain ⟨_, hx972, rfl⟩ := hp950.new 23 75 rfl rfl
                        obtain ⟨_, hx973, rfl⟩ := hp950.new 24 76 rfl rfl
                        obtain ⟨_, hx974, rfl⟩ := hp950.new 25 77 rfl rfl
                        obtain ⟨_, hx975, rfl⟩ := hp950.new 26 78 rfl rfl
                        obtain ⟨_, hx976, rfl⟩ := hp950.new 27 79 rfl rfl
                        obtain ⟨_, hx977, rfl⟩ := hp950.new 28 80 rfl rfl
                        obtain ⟨_, hx978, rfl⟩ := hp950.new 29 81 rfl rfl
                        obtain ⟨_, hx979, rfl⟩ := hp950.new 30 82 rfl rfl
                        obtain ⟨_, hx980, rfl⟩ := hp950.new 31 83 rfl rfl
                        obtain ⟨_, hx981, rfl⟩ := hp950.new 32 84 rfl rfl
                        obtain ⟨_, hx982, rfl⟩ := hp950.new 33 85 rfl rfl
                        obtain ⟨_, hx983, rfl⟩ := hp950.new 34 86 rfl rfl
                        obtain ⟨_, hx984, rfl⟩ := hp950.new 35 87 rfl rfl
                        refine SeqR.done ?_
                        refine tn ?_
                        refine CW.sub (Sub.cons (d := 1) hx954 (Sub.cons (d := 45) hx955 (Sub.cons (d := 46) hx956 (Sub.cons (d := 47) hx957 (Sub.cons (d := 57) hx958 (Sub.cons (d := 58) hx959 (Sub.cons (d := 59) hx960 (Sub.cons (d := 60) hx961 (Sub.cons (d := 61) hx962 (Sub.cons (d := 62) hx963 (Sub.cons (d := 63) hx964 (Sub.cons (d := 64) hx965 (Sub.cons (d := 67) hx966 (Sub.cons (d := 68) hx967 (Sub.cons (d := 69) hx968 (Sub.cons (d := 70) hx969 (Sub.cons (d := 73) hx970 (Sub.cons (d := 74) hx971 (Sub.cons (d := 75) hx972 (Sub.cons (d := 76) hx973 (Sub.cons (d := 77) hx974 (Sub.cons (d := 78) hx975 (Sub.cons (d := 79) hx976 (Sub.cons (d := 80) hx977 (Sub.cons (d := 81) hx978 (Sub.cons (d := 82) hx979 (Sub.cons (d := 83) hx980 (Sub.cons (d := 84) hx981 (Sub.cons (d := 85) hx982 (Sub.cons (d := 86) hx983 (Sub.cons (d := 87) hx984 (Sub.nil _)))))))))))))))))))))))))))))))) ?_
                        refine CW.cond_t rfl rfl ?_
                        refine CW.seq ?_
                        refine CW.region ?_
                        refine SeqR.d1 rfl rfl rfl (yl_assign rfl rfl ?_)
                        refine SeqR.done ?_
                        refine tn ?_
                        refine CW.ret ?_
                        refine br ?_
                        refine tr ?_
                        refine tr ?_
                        have hB986 : B_i_GoodTable_1 p_0 k91 () = .ret false := by simp only [B_i_GoodTable_1, hb16, hb21, hb23, hb159, hb164, hb170, hL90, cond_true, cond_false, loopE_done, loopE_ret]
                        have hL985 : loopM (B_i_GoodTable_1 p_0) (p_0.Idxs.length - 0) 0 () = .ret false := hI136.symm.trans (loopM.ret hlt147 hB986)
                        refine br ?_
                        refine tr ?_
                        refine rr rfl (.cons rfl .nil) ?_
                        have hM987 : (i_GoodTable p_0) = (false) := by simp only [i_GoodTable, hb16, hb21, hb23, hb159, hb164, hb170, hL90, hL985, cond_true, cond_false, loopE_done, loopE_ret]
                        rw [hM987]
                        have q988 := Ex.trans hf145 hE154
                        have q989 := Below.only q988 hO157 (by omega)
                        have q990 := Ex.trans q989 hE953
                        exact ⟨rfl, q990⟩
                  · skip
                    have q992 := Box.ex hf142 hE154
                    have q993 := Box.only q992 hO157 (by omega)
                    refine CW.drawsI 36 (vgetI [DetI (.pointer (some ⟨b149, 0 + 0, none⟩)), DetI (.string (bs ((p_0.Idxs.getD k91 d_Idx).Name))), DetI (.bool ((i_areLetters ((p_0.Idxs.getD k91 d_Idx).Name) 1))), DetI (.bool (!(i_areLetters ((p_0.Idxs.getD k91 d_Idx).Name) 1))), DetI (.bool (!(i_areLetters ((p_0.Idxs.getD k91 d_Idx).Name) 1))), DetI (.pointer (some ⟨b149, 0 + 1, none⟩)), DetI (.int .i64 ((p_0.Idxs.getD k91 d_Idx).Col)), DetI (.pointer (some ⟨b7, 0 + 1, none⟩)), DetI (.slice A1 p_0.Cols.length c1), DetI (.int .i64 ((p_0.Cols.length : Int))), DetI (.int .i64 (IntKind.wrap .i64 ((p_0.Cols.length : Int) - 1))), DetI (.bool ((i_within ((p_0.Idxs.getD k91 d_Idx).Col) 1 (IntKind.wrap .i64 ((p_0.Cols.length : Int) - 1))))), DetI (.bool (!(i_within ((p_0.Idxs.getD k91 d_Idx).Col) 1 (IntKind.wrap .i64 ((p_0.Cols.length : Int) - 1))))), DetI (.bool (!(i_within ((p_0.Idxs.getD k91 d_Idx).Col) 1 (IntKind.wrap .i64 ((p_0.Cols.length : Int) - 1))))), DetI (.bool (!(i_within ((p_0.Idxs.getD k91 d_Idx).Col) 1 (IntKind.wrap .i64 ((p_0.Cols.length : Int) - 1))))), DetI (undef), DetI (undef), DetI (undef), DetI (undef), DetI (.bool (true)), DetI (.bool (true)), DetI (undef), DetI (undef), DetI (undef), DetI (undef), DetI (undef), DetI (undef), DetI (undef), DetI (undef), DetI (undef), DetI (undef), DetI (undef), DetI (undef), DetI (undef), DetI (undef), DetI (.bool (true))]) Try.follows rfl rfl rfl rfl rfl rfl (vgetI_stable ⟨StableI.det _, StableI.det _, StableI.det _, StableI.det _, StableI.det _, StableI.det _, StableI.det _, StableI.det _, StableI.det _, StableI.det _, StableI.det _, StableI.det _, StableI.det _, StableI.det _, StableI.det _, StableI.det _, StableI.det _, StableI.det _, StableI.det _, StableI.det _, StableI.det _, StableI.det _, StableI.det _, StableI.det _, StableI.det _, StableI.det _, StableI.det _, StableI.det _, StableI.det _, StableI.det _, StableI.det _, StableI.det _, StableI.det _, StableI.det _, StableI.det _, StableI.det _, trivial⟩) ⟨?_, ?_, ?_, ?_, ?_, ?_, ?_, ?_, ?_, ?_, ?_, ?_, ?_, ?_, ?_, ?_, ?_, ?_, ?_, ?_, ?_, ?_, ?_, ?_, ?_, ?_, ?_, ?_, ?_, ?_, ?_, ?_, ?_, ?_, ?_, ?_, trivial⟩ ?_
                    · intro L995 w996 hi997
                      have hE998 := hi997.ex
                      have hE998z := Ex.size hE998
                      have hx999 := hi997.old 6 _ rfl rfl
                      exact OpR.op' rfl (Yl.sameI (yl_fieldAddr Try.fd132_0 rfl hx999 ⟨fun _ _ => rfl, rfl⟩))
                    · intro L1000 w1001 hi1002
                      have hE1003 := hi1002.ex
                      have hE1003z := Ex.size hE1003
                      obtain ⟨_, _, _, hx1004, -, -, -, rfl⟩ := hi1002.dep 0 52 rfl rfl
                      have q1005 := Box.ex hB156 hE1003
                      exact OpR.op' rfl (Yl.sameI (yl_load1 Try.ty9 rfl hx1004 ((q1005.cell 0).trans rfl) ⟨fun _ _ => rfl, rfl⟩))
                    · intro L1006 w1007 hi1008
                      have hE1009 := hi1008.ex
                      have hE1009z := Ex.size hE1009
                      obtain ⟨_, _, _, hx1010, -, -, -, rfl⟩ := hi1008.dep 1 53 rfl rfl
                      refine OpR.op' rfl (yl_call Try.en142 rfl (opvs_cons hx1010 (opvs_cons rfl opvs_nil)) (Cal.mono (c_i_areLetters ((p_0.Idxs.getD k91 d_Idx).Name) 1 (okL.getD o3.2.2 ok_d_Idx _)) ?_))
                      rintro v1012 w1011 ⟨rfl, hE1013⟩
                      exact ⟨rfl, hE1013⟩
                    · intro L1014 w1015 hi1016
                      have hE1017 := hi1016.ex
                      have hE1017z := Ex.size hE1017
                      obtain ⟨_, _, _, hx1018, -, -, -, rfl⟩ := hi1016.dep 2 54 rfl rfl
                      exact OpR.op' rfl (Yl.sameI (yl_not rfl hx1018 ⟨fun _ _ => rfl, rfl⟩))
                    · intro L1019 w1020 hi1021
                      have hE1022 := hi1021.ex
                      have hE1022z := Ex.size hE1022
                      obtain ⟨_, _, _, hx1023, -, -, -, rfl⟩ := hi1021.dep 3 55 rfl rfl
                      exact OpR.op' rfl (Yl.sameI (yl_move rfl hx1023 ⟨fun _ _ => rfl, rfl⟩))
                    · intro L1024 w1025 hi1026
                      have hE1027 := hi1026.ex
                      have hE1027z := Ex.size hE1027
                      obtain ⟨_, _, _, hx1028, -, -, -, rfl⟩ := hi1026.dep 4 56 rfl rfl
                      have hx1029 := hi1026.old 6 _ rfl rfl
                      exact OpR.want rfl rfl hx1028 (not_t hb159) (Yl.sameI (yl_fieldAddr Try.fd132_1 rfl hx1029 ⟨fun _ _ => rfl, rfl⟩))
                    · intro L1030 w1031 hi1032
                      have hE1033 := hi1032.ex
                      have hE1033z := Ex.size hE1033
                      obtain ⟨_, _, _, hx1034, -, -, -, rfl⟩ := hi1032.dep 4 56 rfl rfl
                      obtain ⟨_, _, _, hx1035, -, -, -, rfl⟩ := hi1032.dep 5 57 rfl rfl
                      have q1036 := Box.ex hB156 hE1033
                      exact OpR.want rfl rfl hx1034 (not_t hb159) (Yl.sameI (yl_load1 Try.ty3 rfl hx1035 ((q1036.cell 1).trans rfl) ⟨fun _ _ => rfl, rfl⟩))
                    · intro L1037 w1038 hi1039
                      have hE1040 := hi1039.ex
                      have hE1040z := Ex.size hE1040
                      obtain ⟨_, _, _, hx1041, -, -, -, rfl⟩ := hi1039.dep 4 56 rfl rfl
                      have hx1042 := hi1039.old 1 _ rfl rfl
                      exact OpR.want rfl rfl hx1041 (not_t hb159) (Yl.sameI (yl_fieldAddr Try.fd35_1 rfl hx1042 ⟨fun _ _ => rfl, rfl⟩))
                    · intro L1043 w1044 hi1045
                      have hE1046 := hi1045.ex
                      have hE1046z := Ex.size hE1046
                      obtain ⟨_, _, _, hx1047, -, -, -, rfl⟩ := hi1045.dep 4 56 rfl rfl
                      obtain ⟨_, _, _, hx1048, -, -, -, rfl⟩ := hi1045.dep 7 59 rfl rfl
                      have q1049 := Box.ex q993 hE1046
                      exact OpR.want rfl rfl hx1047 (not_t hb159) (Yl.sameI (yl_load1 Try.ty22 rfl hx1048 ((q1049.cell 1).trans rfl) ⟨fun _ _ => rfl, rfl⟩))
                    · intro L1050 w1051 hi1052
                      have hE1053 := hi1052.ex
                      have hE1053z := Ex.size hE1053
                      obtain ⟨_, _, _, hx1054, -, -, -, rfl⟩ := hi1052.dep 4 56 rfl rfl
                      obtain ⟨_, _, _, hx1055, -, -, -, rfl⟩ := hi1052.dep 8 60 rfl rfl
                      exact OpR.want rfl rfl hx1054 (not_t hb159) (Yl.sameI (yl_len Try.un22 rfl hx1055 ⟨fun _ _ => rfl, rfl⟩))
                    · intro L1056 w1057 hi1058
                      have hE1059 := hi1058.ex
                      have hE1059z := Ex.size hE1059
                      obtain ⟨_, _, _, hx1060, -, -, -, rfl⟩ := hi1058.dep 4 56 rfl rfl
                      obtain ⟨_, _, _, hx1061, -, -, -, rfl⟩ := hi1058.dep 9 61 rfl rfl
                      exact OpR.want rfl rfl hx1060 (not_t hb159) (Yl.sameI (yl_sub rfl hx1061 rfl ⟨fun _ _ => rfl, rfl⟩))
                    · intro L1062 w1063 hi1064
                      have hE1065 := hi1064.ex
                      have hE1065z := Ex.size hE1065
                      obtain ⟨_, _, _, hx1066, -, -, -, rfl⟩ := hi1064.dep 4 56 rfl rfl
                      obtain ⟨_, _, _, hx1067, -, -, -, rfl⟩ := hi1064.dep 6 58 rfl rfl
                      obtain ⟨_, _, _, hx1068, -, -, -, rfl⟩ := hi1064.dep 10 62 rfl rfl
                      refine OpR.want rfl rfl hx1066 (not_t hb159) (yl_call Try.en129 rfl (opvs_cons hx1067 (opvs_cons rfl (opvs_cons hx1068 opvs_nil))) (Cal.mono (c_i_within ((p_0.Idxs.getD k91 d_Idx).Col) 1 (IntKind.wrap .i64 ((p_0.Cols.length : Int) - 1))) ?_))
                      rintro v1070 w1069 ⟨rfl, hE1071⟩
                      exact ⟨rfl, hE1071⟩
                    · intro L1072 w1073 hi1074
                      have hE1075 := hi1074.ex
                      have hE1075z := Ex.size hE1075
                      obtain ⟨_, _, _, hx1076, -, -, -, rfl⟩ := hi1074.dep 4 56 rfl rfl
                      obtain ⟨_, _, _, hx1077, -, -, -, rfl⟩ := hi1074.dep 11 63 rfl rfl
                      exact OpR.want rfl rfl hx1076 (not_t hb159) (Yl.sameI (yl_not rfl hx1077 ⟨fun _ _ => rfl, rfl⟩))
                    · intro L1078 w1079 hi1080
                      have hE1081 := hi1080.ex
                      have hE1081z := Ex.size hE1081
                      obtain ⟨_, _, _, hx1082, -, -, -, rfl⟩ := hi1080.dep 12 64 rfl rfl
                      obtain ⟨_, _, _, hx1083, -, -, -, rfl⟩ := hi1080.dep 4 56 rfl rfl
                      exact OpR.op' rfl (Yl.sameI (yl_pick_f rfl hx1083 (not_t hb159) hx1082 ⟨fun _ _ => rfl, rfl⟩))
                    · intro L1084 w1085 hi1086
                      have hE1087 := hi1086.ex
                      have hE1087z := Ex.size hE1087
                      obtain ⟨_, _, _, hx1088, -, -, -, rfl⟩ := hi1086.dep 13 65 rfl rfl
                      exact OpR.op' rfl (Yl.sameI (yl_move rfl hx1088 ⟨fun _ _ => rfl, rfl⟩))
                    · intro L1089 w1090 hi1091
                      have hE1092 := hi1091.ex
                      have hE1092z := Ex.size hE1092
                      obtain ⟨_, _, _, hx1093, -, -, -, rfl⟩ := hi1091.dep 14 66 rfl rfl
                      exact OpR.skip rfl rfl hx1093 (not_f hb164) ⟨rfl, Ex.refl _⟩
                    · intro L1094 w1095 hi1096
                      have hE1097 := hi1096.ex
                      have hE1097z := Ex.size hE1097
                      obtain ⟨_, _, _, hx1098, -, -, -, rfl⟩ := hi1096.dep 14 66 rfl rfl
                      exact OpR.skip rfl rfl hx1098 (not_f hb164) ⟨rfl, Ex.refl _⟩
                    · intro L1099 w1100 hi1101
                      have hE1102 := hi1101.ex
                      have hE1102z := Ex.size hE1102
                      obtain ⟨_, _, _, hx1103, -, -, -, rfl⟩ := hi1101.dep 14 66 rfl rfl
                      exact OpR.skip rfl rfl hx1103 (not_f hb164) ⟨rfl, Ex.refl _⟩
                    · intro L1104 w1105 hi1106
                      have hE1107 := hi1106.ex
                      have hE1107z := Ex.size hE1107
                      obtain ⟨_, _, _, hx1108, -, -, -, rfl⟩ := hi1106.dep 14 66 rfl rfl
                      exact OpR.skip rfl rfl hx1108 (not_f hb164) ⟨rfl, Ex.refl _⟩
                    · intro L1109 w1110 hi1111
                      have hE1112 := hi1111.ex
                      have hE1112z := Ex.size hE1112
                      obtain ⟨_, _, _, hx1113, -, -, -, rfl⟩ := hi1111.dep 18 70 rfl rfl
                      obtain ⟨_, _, _, hx1114, -, -, -, rfl⟩ := hi1111.dep 14 66 rfl rfl
                      exact OpR.op' rfl (Yl.sameI (yl_pick_t rfl hx1114 (not_f hb164) rfl ⟨fun _ _ => rfl, rfl⟩))
                    · intro L1115 w1116 hi1117
                      have hE1118 := hi1117.ex
                      have hE1118z := Ex.size hE1118
                      obtain ⟨_, _, _, hx1119, -, -, -, rfl⟩ := hi1117.dep 19 71 rfl rfl
                      exact OpR.op' rfl (Yl.sameI (yl_move rfl hx1119 ⟨fun _ _ => rfl, rfl⟩))
                    · intro L1120 w1121 hi1122
                      have hE1123 := hi1122.ex
                      have hE1123z := Ex.size hE1123
                      obtain ⟨_, _, _, hx1124, -, -, -, rfl⟩ := hi1122.dep 20 72 rfl rfl
                      exact OpR.skip rfl rfl hx1124 rfl ⟨rfl, Ex.refl _⟩
                    · intro L1125 w1126 hi1127
                      have hE1128 := hi1127.ex
                      have hE1128z := Ex.size hE1128
                      obtain ⟨_, _, _, hx1129, -, -, -, rfl⟩ := hi1127.dep 20 72 rfl rfl
                      exact OpR.skip rfl rfl hx1129 rfl ⟨rfl, Ex.refl _⟩
                    · intro L1130 w1131 hi1132
                      have hE1133 := hi1132.ex
                      have hE1133z := Ex.size hE1133
                      obtain ⟨_, _, _, hx1134, -, -, -, rfl⟩ := hi1132.dep 20 72 rfl rfl
                      exact OpR.skip rfl rfl hx1134 rfl ⟨rfl, Ex.refl _⟩
                    · intro L1135 w1136 hi1137
                      have hE1138 := hi1137.ex
                      have hE1138z := Ex.size hE1138
                      obtain ⟨_, _, _, hx1139, -, -, -, rfl⟩ := hi1137.dep 23 75 rfl rfl
                      exact OpR.undef rfl rfl hx1139 ⟨rfl, Ex.refl _⟩
                    · intro L1140 w1141 hi1142
                      have hE1143 := hi1142.ex
                      have hE1143z := Ex.size hE1143
                      obtain ⟨_, _, _, hx1144, -, -, -, rfl⟩ := hi1142.dep 23 75 rfl rfl
                      exact OpR.undef rfl rfl hx1144 ⟨rfl, Ex.refl _⟩
                    · intro L1145 w1146 hi1147
                      have hE1148 := hi1147.ex
                      have hE1148z := Ex.size hE1148
                      obtain ⟨_, _, _, hx1149, -, -, -, rfl⟩ := hi1147.dep 23 75 rfl rfl
                      exact OpR.undef rfl rfl hx1149 ⟨rfl, Ex.refl _⟩
                    · intro L1150 w1151 hi1152
                      have hE1153 := hi1152.ex
                      have hE1153z := Ex.size hE1153
                      obtain ⟨_, _, _, hx1154, -, -, -, rfl⟩ := hi1152.dep 23 75 rfl rfl
                      exact OpR.undef rfl rfl hx1154 ⟨rfl, Ex.refl _⟩
                    · intro L1155 w1156 hi1157
                      have hE1158 := hi1157.ex
                      have hE1158z := Ex.size hE1158
                      obtain ⟨_, _, _, hx1159, -, -, -, rfl⟩ := hi1157.dep 23 75 rfl rfl
                      exact OpR.undef rfl rfl hx1159 ⟨rfl, Ex.refl _⟩
                    · intro L1160 w1161 hi1162
                      have hE1163 := hi1162.ex
                      have hE1163z := Ex.size hE1163
                      obtain ⟨_, _, _, hx1164, -, -, -, rfl⟩ := hi1162.dep 23 75 rfl rfl
                      exact OpR.undef rfl rfl hx1164 ⟨rfl, Ex.refl _⟩
                    · intro L1165 w1166 hi1167
                      have hE1168 := hi1167.ex
                      have hE1168z := Ex.size hE1168
                      obtain ⟨_, _, _, hx1169, -, -, -, rfl⟩ := hi1167.dep 23 75 rfl rfl
                      exact OpR.undef rfl rfl hx1169 ⟨rfl, Ex.refl _⟩
                    · intro L1170 w1171 hi1172
                      have hE1173 := hi1172.ex
                      have hE1173z := Ex.size hE1173
                      obtain ⟨_, _, _, hx1174, -, -, -, rfl⟩ := hi1172.dep 23 75 rfl rfl
                      exact OpR.undef rfl rfl hx1174 ⟨rfl, Ex.refl _⟩
                    · intro L1175 w1176 hi1177
                      have hE1178 := hi1177.ex
                      have hE1178z := Ex.size hE1178
                      obtain ⟨_, _, _, hx1179, -, -, -, rfl⟩ := hi1177.dep 23 75 rfl rfl
                      exact OpR.undef rfl rfl hx1179 ⟨rfl, Ex.refl _⟩
                    · intro L1180 w1181 hi1182
                      have hE1183 := hi1182.ex
                      have hE1183z := Ex.size hE1183
                      obtain ⟨_, _, _, hx1184, -, -, -, rfl⟩ := hi1182.dep 23 75 rfl rfl
                      exact OpR.undef rfl rfl hx1184 ⟨rfl, Ex.refl _⟩
                    · intro L1185 w1186 hi1187
                      have hE1188 := hi1187.ex
                      have hE1188z := Ex.size hE1188
                      obtain ⟨_, _, _, hx1189, -, -, -, rfl⟩ := hi1187.dep 20 72 rfl rfl
                      exact OpR.skip rfl rfl hx1189 rfl ⟨rfl, Ex.refl _⟩
                    · intro L1190 w1191 hi1192
                      have hE1193 := hi1192.ex
                      have hE1193z := Ex.size hE1193
                      obtain ⟨_, _, _, hx1194, -, -, -, rfl⟩ := hi1192.dep 34 86 rfl rfl
                      obtain ⟨_, _, _, hx1195, -, -, -, rfl⟩ := hi1192.dep 20 72 rfl rfl
                      exact OpR.op' rfl (Yl.sameI (yl_pick_t rfl hx1195 rfl rfl ⟨fun _ _ => rfl, rfl⟩))
                    · intro fl1199 fh1200 L1196 w1197 hp1198
                      have hE1201 := hp1198.ex
                      have hE1201z := Ex.size hE1201
                      have hx1202 := hp1198.old 1 _ rfl rfl
                      have hx1203 := hp1198.old 45 _ rfl rfl
                      have hx1204 := hp1198.old 46 _ rfl rfl
                      have hx1205 := hp1198.old 47 _ rfl rfl
                      obtain ⟨_, hx1206, rfl⟩ := hp1198.new 5 57 rfl rfl
                      obtain ⟨_, hx1207, rfl⟩ := hp1198.new 6 58 rfl rfl
                      obtain ⟨_, hx1208, rfl⟩ := hp1198.new 7 59 rfl rfl
                      obtain ⟨_, hx1209, rfl⟩ := hp1198.new 8 60 rfl rfl
                      obtain ⟨_, hx1210, rfl⟩ := hp1198.new 9 61 rfl rfl
                      obtain ⟨_, hx1211, rfl⟩ := hp1198.new 10 62 rfl rfl
                      obtain ⟨_, hx1212, rfl⟩ := hp1198.new 11 63 rfl rfl
                      obtain ⟨_, hx1213, rfl⟩ := hp1198.new 12 64 rfl rfl
                      obtain ⟨_, hx1214, rfl⟩ := hp1198.new 15 67 rfl rfl
                      obtain ⟨_, hx1215, rfl⟩ := hp1198.new 16 68 rfl rfl
                      obtain ⟨_, hx1216, rfl⟩ := hp1198.new 17 69 rfl rfl
                      obtain ⟨_, hx1217, rfl⟩ := hp1198.new 18 70 rfl rfl
                      obtain ⟨_, hx1218, rfl⟩ := hp1198.new 21 73 rfl rfl
                      obtain ⟨_, hx1219, rfl⟩ := hp1198.new 22 74 rfl rfl
                      obtain ⟨_, hx1220, rfl⟩ := hp1198.new 23 75 rfl rfl
                      obtain ⟨_, hx1221, rfl⟩ := hp1198.new 24 76 rfl rfl
                      obtain ⟨_, hx1222, rfl⟩ := hp1198.new 25 77 rfl rfl
                      obtain ⟨_, hx1223, rfl⟩ := hp1198.new 26 78 rfl rfl
                      obtain ⟨_, hx1224, rfl⟩ := hp1198.new 27 79 rfl rfl
                      obtain ⟨_, hx1225, rfl⟩ := hp1198.new 28 80 rfl rfl
                      obtain ⟨_, hx1226, rfl⟩ := hp1198.new 29 81 rfl rfl
                      obtain ⟨_, hx1227, rfl⟩ := hp1198.new 30 82 rfl rfl
                      obtain ⟨_, hx1228, rfl⟩ := hp1198.new 31 83 rfl rfl
                      obtain ⟨_, hx1229, rfl⟩ := hp1198.new 32 84 rfl rfl
                      obtain ⟨_, hx1230, rfl⟩ := hp1198.new 33 85 rfl rfl
                      obtain ⟨_, hx1231, rfl⟩ := hp1198.new 34 86 rfl rfl
                      obtain ⟨_, hx1232, rfl⟩ := hp1198.new 35 87 rfl rfl
                      refine SeqR.done ?_
                      refine tn ?_
                      refine CW.sub (Sub.cons (d := 1) hx1202 (Sub.cons (d := 45) hx1203 (Sub.cons (d := 46) hx1204 (Sub.cons (d := 47) hx1205 (Sub.cons (d := 57) hx1206 (Sub.cons (d := 58) hx1207 (Sub.cons (d := 59) hx1208 (Sub.cons (d := 60) hx1209 (Sub.cons (d := 61) hx1210 (Sub.cons (d := 62) hx1211 (Sub.cons (d := 63) hx1212 (Sub.cons (d := 64) hx1213 (Sub.cons (d := 67) hx1214 (Sub.cons (d := 68) hx1215 (Sub.cons (d := 69) hx1216 (Sub.cons (d := 70) hx1217 (Sub.cons (d := 73) hx1218 (Sub.cons (d := 74) hx1219 (Sub.cons (d := 75) hx1220 (Sub.cons (d := 76) hx1221 (Sub.cons (d := 77) hx1222 (Sub.cons (d := 78) hx1223 (Sub.cons (d := 79) hx1224 (Sub.cons (d := 80) hx1225 (Sub.cons (d := 81) hx1226 (Sub.cons (d := 82) hx1227 (Sub.cons (d := 83) hx1228 (Sub.cons (d := 84) hx1229 (Sub.cons (d := 85) hx1230 (Sub.cons (d := 86) hx1231 (Sub.cons (d := 87) hx1232 (Sub.nil _)))))))))))))))))))))))))))))))) ?_
                      refine CW.cond_t rfl rfl ?_
                      refine CW.seq ?_
                      refine CW.region ?_
                      refine SeqR.d1 rfl rfl rfl (yl_assign rfl rfl ?_)
                      refine SeqR.done ?_
                      refine tn ?_
                      refine CW.ret ?_
                      refine br ?_
                      refine tr ?_
                      refine tr ?_
                      have hB1234 : B_i_GoodTable_1 p_0 k91 () = .ret false := by simp only [B_i_GoodTable_1, hb16, hb21, hb23, hb159, hb164, hL90, cond_true, cond_false, loopE_done, loopE_ret]
                      have hL1233 : loopM (B_i_GoodTable_1 p_0) (p_0.Idxs.length - 0) 0 () = .ret false := hI136.symm.trans (loopM.ret hlt147 hB1234)
                      refine br ?_
                      refine tr ?_
                      refine rr rfl (.cons rfl .nil) ?_
                      have hM1235 : (i_GoodTable p_0) = (false) := by simp only [i_GoodTable, hb16, hb21, hb23, hb159, hb164, hL90, hL1233, cond_true, cond_false, loopE_done, loopE_ret]
                      rw [hM1235]
                      have q1236 := Ex.trans hf145 hE154
                      have q1237 := Below.only q1236 hO157 (by omega)
                      have q1238 := Ex.trans q1237 hE1201
                      exact ⟨rfl, q1238⟩
                · skip
                  refine CW.drawsI 36 (vgetI [DetI (.pointer (some ⟨b149, 0 + 0, none⟩)), DetI (.string (bs ((p_0.Idxs.getD k91 d_Idx).Name))), DetI (.bool ((i_areLetters ((p_0.Idxs.getD k91 d_Idx).Name) 1))), DetI (.bool (!(i_areLetters ((p_0.Idxs.getD k91 d_Idx).Name) 1))), DetI (.bool (!(i_areLetters ((p_0.Idxs.getD k91 d_Idx).Name) 1))), DetI (undef), DetI (undef), DetI (undef), DetI (undef), DetI (undef), DetI (undef), DetI (undef), DetI (undef), DetI (.bool (true)), DetI (.bool (true)), DetI (undef), DetI (undef), DetI (undef), DetI (undef), DetI (.bool (true)), DetI (.bool (true)), DetI (undef), DetI (undef), DetI (undef), DetI (undef), DetI (undef), DetI (undef), DetI (undef), DetI (undef), DetI (undef), DetI (undef), DetI (undef), DetI (undef), DetI (undef), DetI (undef), DetI (.bool (true))]) Try.follows rfl rfl rfl rfl rfl rfl (vgetI_stable ⟨StableI.det _, StableI.det _, StableI.det _, StableI.det _, StableI.det _, StableI.det _, StableI.det _, StableI.det _, StableI.det _, StableI.det _, StableI.det _, StableI.det _, StableI.det _, StableI.det _, StableI.det _, StableI.det _, StableI.det _, StableI.det _, StableI.det _, StableI.det _, StableI.det _, StableI.det _, StableI.det _, StableI.det _, StableI.det _, StableI.det _, StableI.det _, StableI.det _, StableI.det _, StableI.det _, StableI.det _, StableI.det _, StableI.det _, StableI.det _, StableI.det _, StableI.det _, trivial⟩) ⟨?_, ?_, ?_, ?_, ?_, ?_, ?_, ?_, ?_, ?_, ?_, ?_, ?_, ?_, ?_, ?_, ?_, ?_, ?_, ?_, ?_, ?_, ?_, ?_, ?_, ?_, ?_, ?_, ?_, ?_, ?_, ?_, ?_, ?_, ?_, ?_, trivial⟩ ?_
                  · intro L1240 w1241 hi1242
                    have hE1243 := hi1242.ex
                    have hE1243z := Ex.size hE1243
                    have hx1244 := hi1242.old 6 _ rfl rfl
                    exact OpR.op' rfl (Yl.sameI (yl_fieldAddr Try.fd132_0 rfl hx1244 ⟨fun _ _ => rfl, rfl⟩))
                  · intro L1245 w1246 hi1247
                    have hE1248 := hi1247.ex
                    have hE1248z := Ex.size hE1248
                    obtain ⟨_, _, _, hx1249, -, -, -, rfl⟩ := hi1247.dep 0 52 rfl rfl
                    have q1250 := Box.ex hB156 hE1248
                    exact OpR.op' rfl (Yl.sameI (yl_load1 Try.ty9 rfl hx1249 ((q1250.cell 0).trans rfl) ⟨fun _ _ => rfl, rfl⟩))
                  · intro L1251 w1252 hi1253
                    have hE1254 := hi1253.ex
                    have hE1254z := Ex.size hE1254
                    obtain ⟨_, _, _, hx1255, -, -, -, rfl⟩ := hi1253.dep 1 53 rfl rfl
                    refine OpR.op' rfl (yl_call Try.en142 rfl (opvs_cons hx1255 (opvs_cons rfl opvs_nil)) (Cal.mono (c_i_areLetters ((p_0.Idxs.getD k91 d_Idx).Name) 1 (okL.getD o3.2.2 ok_d_Idx _)) ?_))
                    rintro v1257 w1256 ⟨rfl, hE1258⟩
                    exact ⟨rfl, hE1258⟩
                  · intro L1259 w1260 hi1261
                    have hE1262 := hi1261.ex
                    have hE1262z := Ex.size hE1262
                    obtain ⟨_, _, _, hx1263, -, -, -, rfl⟩ := hi1261.dep 2 54 rfl rfl
                    exact OpR.op' rfl (Yl.sameI (yl_not rfl hx1263 ⟨fun _ _ => rfl, rfl⟩))
                  · intro L1264 w1265 hi1266
                    have hE1267 := hi1266.ex
                    have hE1267z := Ex.size hE1267
                    obtain ⟨_, _, _, hx1268, -, -, -, rfl⟩ := hi1266.dep 3 55 rfl rfl
                    exact OpR.op' rfl (Yl.sameI (yl_move rfl hx1268 ⟨fun _ _ => rfl, rfl⟩))
                  · intro L1269 w1270 hi1271
                    have hE1272 := hi1271.ex
                    have hE1272z := Ex.size hE1272
                    obtain ⟨_, _, _, hx1273, -, -, -, rfl⟩ := hi1271.dep 4 56 rfl rfl
                    exact OpR.skip rfl rfl hx1273 (not_f hb159) ⟨rfl, Ex.refl _⟩
                  · intro L1274 w1275 hi1276
                    have hE1277 := hi1276.ex
                    have hE1277z := Ex.size hE1277
                    obtain ⟨_, _, _, hx1278, -, -, -, rfl⟩ := hi1276.dep 4 56 rfl rfl
                    exact OpR.skip rfl rfl hx1278 (not_f hb159) ⟨rfl, Ex.refl _⟩
                  · intro L1279 w1280 hi1281
                    have hE1282 := hi1281.ex
                    have hE1282z := Ex.size hE1282
                    obtain ⟨_, _, _, hx1283, -, -, -, rfl⟩ := hi1281.dep 4 56 rfl rfl
                    exact OpR.skip rfl rfl hx1283 (not_f hb159) ⟨rfl, Ex.refl _⟩
                  · intro L1284 w1285 hi1286
                    have hE1287 := hi1286.ex
                    have hE1287z := Ex.size hE1287
                    obtain ⟨_, _, _, hx1288, -, -, -, rfl⟩ := hi1286.dep 4 56 rfl rfl
                    exact OpR.skip rfl rfl hx1288 (not_f hb159) ⟨rfl, Ex.refl _⟩
                  · intro L1289 w1290 hi1291
                    have hE1292 := hi1291.ex
                    have hE1292z := Ex.size hE1292
                    obtain ⟨_, _, _, hx1293, -, -, -, rfl⟩ := hi1291.dep 4 56 rfl rfl
                    exact OpR.skip rfl rfl hx1293 (not_f hb159) ⟨rfl, Ex.refl _⟩
                  · intro L1294 w1295 hi1296
                    have hE1297 := hi1296.ex
                    have hE1297z := Ex.size hE1297
                    obtain ⟨_, _, _, hx1298, -, -, -, rfl⟩ := hi1296.dep 4 56 rfl rfl
                    exact OpR.skip rfl rfl hx1298 (not_f hb159) ⟨rfl, Ex.refl _⟩
                  · intro L1299 w1300 hi1301
                    have hE1302 := hi1301.ex
                    have hE1302z := Ex.size hE1302
                    obtain ⟨_, _, _, hx1303, -, -, -, rfl⟩ := hi1301.dep 4 56 rfl rfl
                    exact OpR.skip rfl rfl hx1303 (not_f hb159) ⟨rfl, Ex.refl _⟩
                  · intro L1304 w1305 hi1306
                    have hE1307 := hi1306.ex
                    have hE1307z := Ex.size hE1307
                    obtain ⟨_, _, _, hx1308, -, -, -, rfl⟩ := hi1306.dep 4 56 rfl rfl
                    exact OpR.skip rfl rfl hx1308 (not_f hb159) ⟨rfl, Ex.refl _⟩
                  · intro L1309 w1310 hi1311
                    have hE1312 := hi1311.ex
                    have hE1312z := Ex.size hE1312
                    obtain ⟨_, _, _, hx1313, -, -, -, rfl⟩ := hi1311.dep 12 64 rfl rfl
                    obtain ⟨_, _, _, hx1314, -, -, -, rfl⟩ := hi1311.dep 4 56 rfl rfl
                    exact OpR.op' rfl (Yl.sameI (yl_pick_t rfl hx1314 (not_f hb159) rfl ⟨fun _ _ => rfl, rfl⟩))
                  · intro L1315 w1316 hi1317
                    have hE1318 := hi1317.ex
                    have hE1318z := Ex.size hE1318
                    obtain ⟨_, _, _, hx1319, -, -, -, rfl⟩ := hi1317.dep 13 65 rfl rfl
                    exact OpR.op' rfl (Yl.sameI (yl_move rfl hx1319 ⟨fun _ _ => rfl, rfl⟩))
                  · intro L1320 w1321 hi1322
                    have hE1323 := hi1322.ex
                    have hE1323z := Ex.size hE1323
                    obtain ⟨_, _, _, hx1324, -, -, -, rfl⟩ := hi1322.dep 14 66 rfl rfl
                    exact OpR.skip rfl rfl hx1324 rfl ⟨rfl, Ex.refl _⟩
                  · intro L1325 w1326 hi1327
                    have hE1328 := hi1327.ex
                    have hE1328z := Ex.size hE1328
                    obtain ⟨_, _, _, hx1329, -, -, -, rfl⟩ := hi1327.dep 14 66 rfl rfl
                    exact OpR.skip rfl rfl hx1329 rfl ⟨rfl, Ex.refl _⟩
                  · intro L1330 w1331 hi1332
                    have hE1333 := hi1332.ex
                    have hE1333z := Ex.size hE1333
                    obtain ⟨_, _, _, hx1334, -, -, -, rfl⟩ := hi1332.dep 14 66 rfl rfl
                    exact OpR.skip rfl rfl hx1334 rfl ⟨rfl, Ex.refl _⟩
                  · intro L1335 w1336 hi1337
                    have hE1338 := hi1337.ex
                    have hE1338z := Ex.size hE1338
                    obtain ⟨_, _, _, hx1339, -, -, -, rfl⟩ := hi1337.dep 14 66 rfl rfl
                    exact OpR.skip rfl rfl hx1339 rfl ⟨rfl, Ex.refl _⟩
                  · intro L1340 w1341 hi1342
                    have hE1343 := hi1342.ex
                    have hE1343z := Ex.size hE1343
                    obtain ⟨_, _, _, hx1344, -, -, -, rfl⟩ := hi1342.dep 18 70 rfl rfl
                    obtain ⟨_, _, _, hx1345, -, -, -, rfl⟩ := hi1342.dep 14 66 rfl rfl
                    exact OpR.op' rfl (Yl.sameI (yl_pick_t rfl hx1345 rfl rfl ⟨fun _ _ => rfl, rfl⟩))
                  · intro L1346 w1347 hi1348
                    have hE1349 := hi1348.ex
                    have hE1349z := Ex.size hE1349
                    obtain ⟨_, _, _, hx1350, -, -, -, rfl⟩ := hi1348.dep 19 71 rfl rfl
                    exact OpR.op' rfl (Yl.sameI (yl_move rfl hx1350 ⟨fun _ _ => rfl, rfl⟩))
                  · intro L1351 w1352 hi1353
                    have hE1354 := hi1353.ex
                    have hE1354z := Ex.size hE1354
                    obtain ⟨_, _, _, hx1355, -, -, -, rfl⟩ := hi1353.dep 20 72 rfl rfl
                    exact OpR.skip rfl rfl hx1355 rfl ⟨rfl, Ex.refl _⟩
                  · intro L1356 w1357 hi1358
                    have hE1359 := hi1358.ex
                    have hE1359z := Ex.size hE1359
                    obtain ⟨_, _, _, hx1360, -, -, -, rfl⟩ := hi1358.dep 20 72 rfl rfl
                    exact OpR.skip rfl rfl hx1360 rfl ⟨rfl, Ex.refl _⟩
                  · intro L1361 w1362 hi1363
                    have hE1364 := hi1363.ex
                    have hE1364z := Ex.size hE1364
                    obtain ⟨_, _, _, hx1365, -, -, -, rfl⟩ := hi1363.dep 20 72 rfl rfl
                    exact OpR.skip rfl rfl hx1365 rfl ⟨rfl, Ex.refl _⟩
                  · intro L1366 w1367 hi1368
                    have hE1369 := hi1368.ex
                    have hE1369z := Ex.size hE1369
                    obtain ⟨_, _, _, hx1370, -, -, -, rfl⟩ := hi1368.dep 23 75 rfl rfl
                    exact OpR.undef rfl rfl hx1370 ⟨rfl, Ex.refl _⟩
                  · intro L1371 w1372 hi1373
                    have hE1374 := hi1373.ex
                    have hE1374z := Ex.size hE1374
                    obtain ⟨_, _, _, hx1375, -, -, -, rfl⟩ := hi1373.dep 23 75 rfl rfl
                    exact OpR.undef rfl rfl hx1375 ⟨rfl, Ex.refl _⟩
                  · intro L1376 w1377 hi1378
                    have hE1379 := hi1378.ex
                    have hE1379z := Ex.size hE1379
                    obtain ⟨_, _, _, hx1380, -, -, -, rfl⟩ := hi1378.dep 23 75 rfl rfl
                    exact OpR.undef rfl rfl hx1380 ⟨rfl, Ex.refl _⟩
                  · intro L1381 w1382 hi1383
                    have hE1384 := hi1383.ex
                    have hE1384z := Ex.size hE1384
                    obtain ⟨_, _, _, hx1385, -, -, -, rfl⟩ := hi1383.dep 23 75 rfl rfl
                    exact OpR.undef rfl rfl hx1385 ⟨rfl, Ex.refl _⟩
                  · intro L1386 w1387 hi1388
                    have hE1389 := hi1388.ex
                    have hE1389z := Ex.size hE1389
                    obtain ⟨_, _, _, hx1390, -, -, -, rfl⟩ := hi1388.dep 23 75 rfl rfl
                    exact OpR.undef rfl rfl hx1390 ⟨rfl, Ex.refl _⟩
                  · intro L1391 w1392 hi1393
                    have hE1394 := hi1393.ex
                    have hE1394z := Ex.size hE1394
                    obtain ⟨_, _, _, hx1395, -, -, -, rfl⟩ := hi1393.dep 23 75 rfl rfl
                    exact OpR.undef rfl rfl hx1395 ⟨rfl, Ex.refl _⟩
                  · intro L1396 w1397 hi1398
                    have hE1399 := hi1398.ex
                    have hE1399z := Ex.size hE1399
                    obtain ⟨_, _, _, hx1400, -, -, -, rfl⟩ := hi1398.dep 23 75 rfl rfl
                    exact OpR.undef rfl rfl hx1400 ⟨rfl, Ex.refl _⟩
                  · intro L1401 w1402 hi1403
                    have hE1404 := hi1403.ex
                    have hE1404z := Ex.size hE1404
                    obtain ⟨_, _, _, hx1405, -, -, -, rfl⟩ := hi1403.dep 23 75 rfl rfl
                    exact OpR.undef rfl rfl hx1405 ⟨rfl, Ex.refl _⟩
                  · intro L1406 w1407 hi1408
                    have hE1409 := hi1408.ex
                    have hE1409z := Ex.size hE1409
                    obtain ⟨_, _, _, hx1410, -, -, -, rfl⟩ := hi1408.dep 23 75 rfl rfl
                    exact OpR.undef rfl rfl hx1410 ⟨rfl, Ex.refl _⟩
                  · intro L1411 w1412 hi1413
                    have hE1414 := hi1413.ex
                    have hE1414z := Ex.size hE1414
                    obtain ⟨_, _, _, hx1415, -, -, -, rfl⟩ := hi1413.dep 23 75 rfl rfl
                    exact OpR.undef rfl rfl hx1415 ⟨rfl, Ex.refl _⟩
                  · intro L1416 w1417 hi1418
                    have hE1419 := hi1418.ex
                    have hE1419z := Ex.size hE1419
                    obtain ⟨_, _, _, hx1420, -, -, -, rfl⟩ := hi1418.dep 20 72 rfl rfl
                    exact OpR.skip rfl rfl hx1420 rfl ⟨rfl, Ex.refl _⟩
                  · intro L1421 w1422 hi1423
                    have hE1424 := hi1423.ex
                    have hE1424z := Ex.size hE1424
                    obtain ⟨_, _, _, hx1425, -, -, -, rfl⟩ := hi1423.dep 34 86 rfl rfl
                    obtain ⟨_, _, _, hx1426, -, -, -, rfl⟩ := hi1423.dep 20 72 rfl rfl
                    exact OpR.op' rfl (Yl.sameI (yl_pick_t rfl hx1426 rfl rfl ⟨fun _ _ => rfl, rfl⟩))
                  · intro fl1430 fh1431 L1427 w1428 hp1429
                    have hE1432 := hp1429.ex
                    have hE1432z := Ex.size hE1432
                    have hx1433 := hp1429.old 1 _ rfl rfl
                    have hx1434 := hp1429.old 45 _ rfl rfl
                    have hx1435 := hp1429.old 46 _ rfl rfl
                    have hx1436 := hp1429.old 47 _ rfl rfl
                    obtain ⟨_, hx1437, rfl⟩ := hp1429.new 5 57 rfl rfl
                    obtain ⟨_, hx1438, rfl⟩ := hp1429.new 6 58 rfl rfl
                    obtain ⟨_, hx1439, rfl⟩ := hp1429.new 7 59 rfl rfl
                    obtain ⟨_, hx1440, rfl⟩ := hp1429.new 8 60 rfl rfl
                    obtain ⟨_, hx1441, rfl⟩ := hp1429.new 9 61 rfl rfl
                    obtain ⟨_, hx1442, rfl⟩ := hp1429.new 10 62 rfl rfl
                    obtain ⟨_, hx1443, rfl⟩ := hp1429.new 11 63 rfl rfl
                    obtain ⟨_, hx1444, rfl⟩ := hp1429.new 12 64 rfl rfl
                    obtain ⟨_, hx1445, rfl⟩ := hp1429.new 15 67 rfl rfl
                    obtain ⟨_, hx1446, rfl⟩ := hp1429.new 16 68 rfl rfl
                    obtain ⟨_, hx1447, rfl⟩ := hp1429.new 17 69 rfl rfl
                    obtain ⟨_, hx1448, rfl⟩ := hp1429.new 18 70 rfl rfl
                    obtain ⟨_, hx1449, rfl⟩ := hp1429.new 21 73 rfl rfl
                    obtain ⟨_, hx1450, rfl⟩ := hp1429.new 22 74 rfl rfl
                    obtain ⟨_, hx1451, rfl⟩ := hp1429.new 23 75 rfl rfl
                    obtain ⟨_, hx1452, rfl⟩ := hp1429.new 24 76 rfl rfl
                    obtain ⟨_, hx1453, rfl⟩ := hp1429.new 25 77 rfl rfl
                    obtain ⟨_, hx1454, rfl⟩ := hp1429.new 26 78 rfl rfl
                    obtain ⟨_, hx1455, rfl⟩ := hp1429.new 27 79 rfl rfl
                    obtain ⟨_, hx1456, rfl⟩ := hp1429.new 28 80 rfl rfl
                    obtain ⟨_, hx1457, rfl⟩ := hp1429.new 29 81 rfl rfl
                    obtain ⟨_, hx1458, rfl⟩ := hp1429.new 30 82 rfl rfl
                    obtain ⟨_, hx1459, rfl⟩ := hp1429.new 31 83 rfl rfl
                    obtain ⟨_, hx1460, rfl⟩ := hp1429.new 32 84 rfl rfl
                    obtain ⟨_, hx1461, rfl⟩ := hp1429.new 33 85 rfl rfl
                    obtain ⟨_, hx1462, rfl⟩ := hp1429.new 34 86 rfl rfl
                    obtain ⟨_, hx1463, rfl⟩ := hp1429.new 35 87 rfl rfl
                    refine SeqR.done ?_
                    refine tn ?_
                    refine CW.sub (Sub.cons (d := 1) hx1433 (Sub.cons (d := 45) hx1434 (Sub.cons (d := 46) hx1435 (Sub.cons (d := 47) hx1436 (Sub.cons (d := 57) hx1437 (Sub.cons (d := 58) hx1438 (Sub.cons (d := 59) hx1439 (Sub.cons (d := 60) hx1440 (Sub.cons (d := 61) hx1441 (Sub.cons (d := 62) hx1442 (Sub.cons (d := 63) hx1443 (Sub.cons (d := 64) hx1444 (Sub.cons (d := 67) hx1445 (Sub.cons (d := 68) hx1446 (Sub.cons (d := 69) hx1447 (Sub.cons (d := 70) hx1448 (Sub.cons (d := 73) hx1449 (Sub.cons (d := 74) hx1450 (Sub.cons (d := 75) hx1451 (Sub.cons (d := 76) hx1452 (Sub.cons (d := 77) hx1453 (Sub.cons (d := 78) hx1454 (Sub.cons (d := 79) hx1455 (Sub.cons (d := 80) hx1456 (Sub.cons (d := 81) hx1457 (Sub.cons (d := 82) hx1458 (Sub.cons (d := 83) hx1459 (Sub.cons (d := 84) hx1460 (Sub.cons (d := 85) hx1461 (Sub.cons (d := 86) hx1462 (Sub.cons (d := 87) hx1463 (Sub.nil _)))))))))))))))))))))))))))))))) ?_
                    refine CW.cond_t rfl rfl ?_
                    refine CW.seq ?_
                    refine CW.region ?_
                    refine SeqR.d1 rfl rfl rfl (yl_assign rfl rfl ?_)
                    refine SeqR.done ?_
                    refine tn ?_
                    refine CW.ret ?_
                    refine br ?_
                    refine tr ?_
                    refine tr ?_
                    have hB1465 : B_i_GoodTable_1 p_0 k91 () = .ret false := by simp only [B_i_GoodTable_1, hb16, hb21, hb23, hb159, hL90, cond_true, cond_false, loopE_done, loopE_ret]
                    have hL1464 : loopM (B_i_GoodTable_1 p_0) (p_0.Idxs.length - 0) 0 () = .ret false := hI136.symm.trans (loopM.ret hlt147 hB1465)
                    refine br ?_
                    refine tr ?_
                    refine rr rfl (.cons rfl .nil) ?_
                    have hM1466 : (i_GoodTable p_0) = (false) := by simp only [i_GoodTable, hb16, hb21, hb23, hb159, hL90, hL1464, cond_true, cond_false, loopE_done, loopE_ret]
                    rw [hM1466]
                    have q1467 := Ex.trans hf145 hE154
                    have q1468 := Below.only q1467 hO157 (by omega)
                    have q1469 := Ex.trans q1468 hE1432
                    exact ⟨rfl, q1469⟩
              · skip
                refine CW.seq ?_
                refine CW.region ?_
                refine SeqR.d1 rfl rfl rfl (yl_lss rfl rfl rfl ?_)
                refine SeqR.done ?_
                refine tn ?_
                refine CW.seq ?_
                refine CW.cond_f rfl (lt_f hlt147) ?_
                refine CW.exit ?_
                refine tx ?_
                refine tx ?_
                have hL1470 : loopM (B_i_GoodTable_1 p_0) (p_0.Idxs.length - 0) 0 () = .done () := hI136.symm.trans (loopM.stop hlt147)
                refine bx ?_
                refine tn ?_
                refine CW.seq ?_
                refine CW.region ?_
                refine SeqR.d1 rfl rfl rfl (yl_assign rfl rfl ?_)
                refine SeqR.done ?_
                refine tn ?_
                refine CW.ret ?_
                refine rr rfl (.cons rfl .nil) ?_
                have hM1471 : (i_GoodTable p_0) = (true) := by simp only [i_GoodTable, hb16, hb21, hb23, hL90, hL1470, cond_true, cond_false, loopE_done, loopE_ret]
                rw [hM1471]
                exact ⟨rfl, hf145⟩
    · skip
      refine SeqR.z rfl rfl rfl rfl rfl (not_f hb21) ?_
      refine SeqR.z rfl rfl rfl rfl rfl (not_f hb21) ?_
      refine SeqR.z rfl rfl rfl rfl rfl (not_f hb21) ?_
      refine SeqR.z rfl rfl rfl rfl rfl (not_f hb21) ?_
      refine SeqR.d1 rfl rfl rfl (yl_pick_t rfl rfl (not_f hb21) rfl ?_)
      refine SeqR.done ?_
      refine tn ?_
      refine CW.cond_t rfl rfl ?_
      refine CW.seq ?_
      refine CW.region ?_
      refine SeqR.d1 rfl rfl rfl (yl_assign rfl rfl ?_)
      refine SeqR.done ?_
      refine tn ?_
      refine CW.ret ?_
      refine tr ?_
      refine rr rfl (.cons rfl .nil) ?_
      have hM1472 : (i_GoodTable p_0) = (false) := by simp only [i_GoodTable, hb16, hb21, cond_true, cond_false, loopE_done, loopE_ret]
      rw [hM1472]
      have q1473 := Ex.trans (Ex.refl w) hE12
      have q1474 := Ex.trans q1473 hE15
      have q1475 := Ex.trans q1474 hE20
      exact ⟨rfl, q1475⟩
  · skip
    refine SeqR.z rfl rfl rfl rfl rfl (not_f hb16) ?_
    refine SeqR.z rfl rfl rfl rfl rfl (not_f hb16) ?_
    refine SeqR.z rfl rfl rfl rfl rfl (not_f hb16) ?_
    refine SeqR.z rfl rfl rfl rfl rfl (not_f hb16) ?_
    refine SeqR.z rfl rfl rfl rfl rfl (not_f hb16) ?_
    refine SeqR.d1 rfl rfl rfl (yl_pick_t rfl rfl (not_f hb16) rfl ?_)
    refine SeqR.d1 rfl rfl rfl (yl_move rfl rfl ?_)
    refine SeqR.z rfl rfl rfl rfl rfl rfl ?_
    refine SeqR.z rfl rfl rfl rfl rfl rfl ?_
    refine SeqR.z rfl rfl rfl rfl rfl rfl ?_
    refine SeqR.z rfl rfl rfl rfl rfl rfl ?_
    refine SeqR.d1 rfl rfl rfl (yl_pick_t rfl rfl rfl rfl ?_)
    refine SeqR.done ?_
    refine tn ?_
    refine CW.cond_t rfl rfl ?_
    refine CW.seq ?_
    refine CW.region ?_
    refine SeqR.d1 rfl rfl rfl (yl_assign rfl rfl ?_)
    refine SeqR.done ?_
    refine tn ?_
    refine CW.ret ?_
    refine tr ?_
    refine rr rfl (.cons rfl .nil) ?_
    have hM1476 : (i_GoodTable p_0) = (false) := by simp only [i_GoodTable, hb16, cond_true, cond_false, loopE_done, loopE_ret]
    rw [hM1476]
    have q1477 := Ex.trans (Ex.refl w) hE12
    have q1478 := Ex.trans q1477 hE15
    exact ⟨rfl, q1478⟩
set_option maxRecDepth 100000 in
set_option maxHeartbeats 2000000 in
theorem c_g_slices_Equal_string {A1 : Option Addr} {c1 : Nat} {A3 : Option Addr} {c3 : Nat} {w : World} (p_s1 : List Str) (p_s2 : List Str) (h1 : RdS w (Iv 0 w.heap.size) (RF e_Str) 1 A1 p_s1.length c1 p_s1) (h3 : RdS w (Iv 0 w.heap.size) (RF e_Str) 1 A3 p_s2.length c3 p_s2) (o2 : (okL okS) p_s1) (o4 : (okL okS) p_s2) : Cal Try.prog 163 #[.slice A1 p_s1.length c1, .slice A3 p_s2.length c3] w fun v w' => v = .bool ((g_slices_Equal_string p_s1 p_s2)) ∧ Ex w w' := by
  have hol5 := o2.1
  have hol6 := o4.1
  refine Cal.of (vs := [.slice A1 p_s1.length c1, .slice A3 p_s2.length c3]) Try.func163 rfl Try.ntmps163 rfl ?_
  refine CW.seq ?_
  refine CW.region ?_
  refine SeqR.d1 rfl rfl rfl (yl_assign rfl rfl ?_)
  refine SeqR.done ?_
  refine tn ?_
  refine CW.seq ?_
  refine CW.seq ?_
  refine CW.region ?_
  refine SeqR.d1 rfl rfl rfl (yl_move rfl rfl ?_)
  refine SeqR.d1 rfl rfl rfl (yl_len Try.un22 rfl rfl ?_)
  refine SeqR.d1 rfl rfl rfl (yl_move rfl rfl ?_)
  refine SeqR.d1 rfl rfl rfl (yl_len Try.un22 rfl rfl ?_)
  refine SeqR.d1 rfl rfl rfl (yl_neq rfl rfl rfl ?_)
  refine SeqR.done ?_
  refine tn ?_
  refine bcase (decide ((p_s1.length : Int) = (p_s2.length : Int))) (fun hb7 => ?_) (fun hb7 => ?_)
  · have hb7p := dec_t hb7
    refine CW.cond_f rfl (not_t hb7) ?_
    refine CW.skip ?_
    refine tn ?_
    refine CW.seq ?_
    refine CW.seq ?_
    refine CW.region ?_
    refine SeqR.d1 rfl rfl rfl (yl_move rfl rfl ?_)
    refine SeqR.d1 rfl rfl rfl (yl_len Try.un22 rfl rfl ?_)
    refine SeqR.d1 rfl rfl rfl (yl_move rfl rfl ?_)
    refine SeqR.done ?_
    refine tn ?_
    refine CW.block ?_
    refine CW.loop (fun m9 L10 w11 => ∃ (k8 : Nat), m9 = p_s1.length - k8 ∧ k8 ≤ p_s1.length ∧ w.heap.size ≤ w11.heap.size ∧ lkp L10 0 = some (.slice A1 p_s1.length c1) ∧ lkp L10 1 = some (.slice A3 p_s2.length c3) ∧ lkp L10 12 = some (.int .i64 ((p_s1.length : Int))) ∧ lkp L10 13 = some (.int .i64 ((k8 : Int))) ∧ RdS w11 (Iv 0 w.heap.size) (RF e_Str) 1 A1 p_s1.length c1 p_s1 ∧ RdS w11 (Iv 0 w.heap.size) (RF e_Str) 1 A3 p_s2.length c3 p_s2 ∧ Ex w w11 ∧ loopM (B_g_slices_Equal_string_0 p_s1 p_s2) (p_s1.length - k8) k8 () = loopM (B_g_slices_Equal_string_0 p_s1 p_s2) (p_s1.length - 0) 0 ()) (p_s1.length - 0) ?_ ?_
    · exact ⟨0, rfl, (by omega), Nat.le_refl _, rfl, rfl, rfl, rfl, h1, h3, (Ex.refl w), rfl⟩
    · rintro m12 L13 w14 ⟨k8, rfl, hk15, hsz17, hl18, hl19, hl20, hl21, hf22, hf23, hf24, hI16⟩
      refine CW.sub (Sub.cons hl18 (Sub.cons hl19 (Sub.cons hl20 (Sub.cons hl21 (Sub.nil _))))) ?_
      have hf24z := Ex.size hf24
      have hbg25 := RdS.big hf22
      rcases Nat.lt_or_ge k8 p_s1.length with hlt26 | hlt26
      · skip
        refine CW.seq ?_
        refine CW.region ?_
        refine SeqR.d1 rfl rfl rfl (yl_lss rfl rfl rfl ?_)
        refine SeqR.done ?_
        refine tn ?_
        refine CW.seq ?_
        refine CW.cond_t rfl (lt_t hlt26) ?_
        refine CW.skip ?_
        refine tn ?_
        refine CW.seq ?_
        refine CW.block ?_
        refine CW.seq ?_
        refine CW.region ?_
        refine SeqR.d1 rfl rfl rfl (yl_move rfl rfl ?_)
        refine SeqR.d1 rfl rfl rfl (yl_assign rfl rfl ?_)
        refine SeqR.done ?_
        refine tn ?_
        refine CW.seq ?_
        obtain ⟨eb27, eo27, ec27, eA27, eS27, ebl27, el27, eR27, eC27⟩ := RdS.atD hf22 d_Str (i := k8) (by first | omega | assumption)
        obtain rfl := eR27
        have eC27 : Cells w14 eb27 (eo27 + k8 * 1) [.string (bs ((p_s1.getD k8 d_Str)))] := eC27
        obtain ⟨eb28, eo28, ec28, eA28, eS28, ebl28, el28, eR28, eC28⟩ := RdS.atD hf23 d_Str (i := k8) (by first | omega | assumption)
        obtain rfl := eR28
        have eC28 : Cells w14 eb28 (eo28 + k8 * 1) [.string (bs ((p_s2.getD k8 d_Str)))] := eC28
        refine CW.drawsI 9 (vgetI [DetI (.slice A1 p_s1.length c1), DetI (.int .i64 ((k8 : Int))), DetI (.pointer (some ⟨eb27, eo27 + k8 * 1, none⟩)), DetI (.string (bs ((p_s1.getD k8 d_Str)))), DetI (.slice A3 p_s2.length c3), DetI (.int .i64 ((k8 : Int))), DetI (.pointer (some ⟨eb28, eo28 + k8 * 1, none⟩)), DetI (.string (bs ((p_s2.getD k8 d_Str)))), DetI (.bool (!((p_s1.getD k8 d_Str) == (p_s2.getD k8 d_Str))))]) Try.follows rfl rfl rfl rfl rfl rfl (vgetI_stable ⟨StableI.det _, StableI.det _, StableI.det _, StableI.det _, StableI.det _, StableI.det _, StableI.det _, StableI.det _, StableI.det _, trivial⟩) ⟨?_, ?_, ?_, ?_, ?_, ?_, ?_, ?_, ?_, trivial⟩ ?_
        · intro L29 w30 hi31
          have hE32 := hi31.ex
          have hE32z := Ex.size hE32
          have hx33 := hi31.old 0 _ rfl rfl
          exact OpR.op' rfl (Yl.sameI (yl_move rfl hx33 ⟨fun _ _ => rfl, rfl⟩))
        · intro L34 w35 hi36
          have hE37 := hi36.ex
          have hE37z := Ex.size hE37
          have hx38 := hi36.old 5 _ rfl rfl
          exact OpR.op' rfl (Yl.sameI (yl_move rfl hx38 ⟨fun _ _ => rfl, rfl⟩))
        · intro L39 w40 hi41
          have hE42 := hi41.ex
          have hE42z := Ex.size hE42
          obtain ⟨_, _, _, hx43, -, -, -, rfl⟩ := hi41.dep 0 16 rfl rfl
          obtain ⟨_, _, _, hx44, -, -, -, rfl⟩ := hi41.dep 1 17 rfl rfl
          exact OpR.op' rfl (Yl.sameI (yl_indexAddrN Try.un22 Try.ty9 rfl hx43 hx44 eA27 (by first | omega | assumption | (simp only [IntKind.wrap_i64] at *; omega)) ⟨fun _ _ => rfl, rfl⟩))
        · intro L45 w46 hi47
          have hE48 := hi47.ex
          have hE48z := Ex.size hE48
          obtain ⟨_, _, _, hx49, -, -, -, rfl⟩ := hi47.dep 2 18 rfl rfl
          have q50 := Cells.ex eC27 hE48
          exact OpR.op' rfl (Yl.sameI (yl_load1 Try.ty9 rfl hx49 (q50 0 _ rfl) ⟨fun _ _ => rfl, rfl⟩))
        · intro L51 w52 hi53
          have hE54 := hi53.ex
          have hE54z := Ex.size hE54
          have hx55 := hi53.old 1 _ rfl rfl
          exact OpR.op' rfl (Yl.sameI (yl_move rfl hx55 ⟨fun _ _ => rfl, rfl⟩))
        · intro L56 w57 hi58
          have hE59 := hi58.ex
          have hE59z := Ex.size hE59
          have hx60 := hi58.old 5 _ rfl rfl
          exact OpR.op' rfl (Yl.sameI (yl_move rfl hx60 ⟨fun _ _ => rfl, rfl⟩))
        · intro L61 w62 hi63
          have hE64 := hi63.ex
          have hE64z := Ex.size hE64
          obtain ⟨_, _, _, hx65, -, -, -, rfl⟩ := hi63.dep 4 20 rfl rfl
          obtain ⟨_, _, _, hx66, -, -, -, rfl⟩ := hi63.dep 5 21 rfl rfl
          exact OpR.op' rfl (Yl.sameI (yl_indexAddrN Try.un22 Try.ty9 rfl hx65 hx66 eA28 (by first | omega | assumption | (simp only [IntKind.wrap_i64] at *; omega)) ⟨fun _ _ => rfl, rfl⟩))
        · intro L67 w68 hi69
          have hE70 := hi69.ex
          have hE70z := Ex.size hE70
          obtain ⟨_, _, _, hx71, -, -, -, rfl⟩ := hi69.dep 6 22 rfl rfl
          have q72 := Cells.ex eC28 hE70
          exact OpR.op' rfl (Yl.sameI (yl_load1 Try.ty9 rfl hx71 (q72 0 _ rfl) ⟨fun _ _ => rfl, rfl⟩))
        · intro L73 w74 hi75
          have hE76 := hi75.ex
          have hE76z := Ex.size hE76
          obtain ⟨_, _, _, hx77, -, -, -, rfl⟩ := hi75.dep 3 19 rfl rfl
          obtain ⟨_, _, _, hx78, -, -, -, rfl⟩ := hi75.dep 7 23 rfl rfl
          exact OpR.op' rfl (Yl.sameI (yl_sneq (a := (p_s1.getD k8 d_Str)) (b := (p_s2.getD k8 d_Str)) rfl hx77 hx78 ⟨fun _ _ => rfl, rfl⟩))
        · intro fl82 fh83 L79 w80 hp81
          have hE84 := hp81.ex
          have hE84z := Ex.size hE84
          have hx85 := hp81.old 0 _ rfl rfl
          have hx86 := hp81.old 1 _ rfl rfl
          have hx87 := hp81.old 12 _ rfl rfl
          have hx88 := hp81.old 13 _ rfl rfl
          obtain ⟨_, hx89, rfl⟩ := hp81.new 8 24 rfl rfl
          refine SeqR.done ?_
          refine tn ?_
          refine CW.sub (Sub.cons (d := 0) hx85 (Sub.cons (d := 1) hx86 (Sub.cons (d := 12) hx87 (Sub.cons (d := 13) hx88 (Sub.cons (d := 24) hx89 (Sub.nil _)))))) ?_
          refine bcase ((p_s1.getD k8 d_Str) == (p_s2.getD k8 d_Str)) (fun hb90 => ?_) (fun hb90 => ?_)
          · skip
            refine CW.cond_f rfl (not_t hb90) ?_
            refine CW.skip ?_
            refine bn ?_
            refine tn ?_
            refine CW.region ?_
            refine SeqR.d1 rfl rfl rfl (yl_inc rfl rfl rfl (by omega) ?_)
            refine SeqR.d1 rfl rfl rfl (yl_move rfl rfl ?_)
            refine SeqR.done ?_
            refine tn ?_
            have hB91 : B_g_slices_Equal_string_0 p_s1 p_s2 k8 () = .cont () := by simp only [B_g_slices_Equal_string_0, hb7, hb90, cond_true, cond_false, loopE_done, loopE_ret]
            have q92 := RdS.ex good_Str hf22 hE84
            have q93 := RdS.ex good_Str hf23 hE84
            have q94 := Ex.trans hf24 hE84
            exact ⟨p_s1.length - (k8 + 1), by omega, k8 + 1, rfl, hlt26, (by omega), rfl, rfl, rfl, rfl, q92, q93, q94, (loopM.cont hlt26 hB91).symm.trans hI16⟩
          · skip
            refine CW.cond_t rfl (not_f hb90) ?_
            refine CW.seq ?_
            refine CW.region ?_
            refine SeqR.d1 rfl rfl rfl (yl_assign rfl rfl ?_)
            refine SeqR.done ?_
            refine tn ?_
            refine CW.ret ?_
            refine br ?_
            refine tr ?_
            refine tr ?_
            have hB96 : B_g_slices_Equal_string_0 p_s1 p_s2 k8 () = .ret false := by simp only [B_g_slices_Equal_string_0, hb7, hb90, cond_true, cond_false, loopE_done, loopE_ret]
            have hL95 : loopM (B_g_slices_Equal_string_0 p_s1 p_s2) (p_s1.length - 0) 0 () = .ret false := hI16.symm.trans (loopM.ret hlt26 hB96)
            refine br ?_
            refine tr ?_
            refine rr rfl (.cons rfl .nil) ?_
            have hM97 : (g_slices_Equal_string p_s1 p_s2) = (false) := by simp only [g_slices_Equal_string, hb7, hb90, hL95, cond_true, cond_false, loopE_done, loopE_ret]
            rw [hM97]
            have q98 := Ex.trans hf24 hE84
            exact ⟨rfl, q98⟩
      · skip
        refine CW.seq ?_
        refine CW.region ?_
        refine SeqR.d1 rfl rfl rfl (yl_lss rfl rfl rfl ?_)
        refine SeqR.done ?_
        refine tn ?_
        refine CW.seq ?_
        refine CW.cond_f rfl (lt_f hlt26) ?_
        refine CW.exit ?_
        refine tx ?_
        refine tx ?_
        have hL99 : loopM (B_g_slices_Equal_string_0 p_s1 p_s2) (p_s1.length - 0) 0 () = .done () := hI16.symm.trans (loopM.stop hlt26)
        refine bx ?_
        refine tn ?_
        refine CW.seq ?_
        refine CW.region ?_
        refine SeqR.d1 rfl rfl rfl (yl_assign rfl rfl ?_)
        refine SeqR.done ?_
        refine tn ?_
        refine CW.ret ?_
        refine rr rfl (.cons rfl .nil) ?_
        have hM100 : (g_slices_Equal_string p_s1 p_s2) = (true) := by simp only [g_slices_Equal_string, hb7, hL99, cond_true, cond_false, loopE_done, loopE_ret]
        rw [hM100]
        exact ⟨rfl, hf24⟩
  · have hb7p := dec_f hb7
    refine CW.cond_t rfl (not_f hb7) ?_
    refine CW.seq ?_
    refine CW.region ?_
    refine SeqR.d1 rfl rfl rfl (yl_assign rfl rfl ?_)
    refine SeqR.done ?_
    refine tn ?_
    refine CW.ret ?_
    refine tr ?_
    refine rr rfl (.cons rfl .nil) ?_
    have hM101 : (g_slices_Equal_string p_s1 p_s2) = (false) := by simp only [g_slices_Equal_string, hb7, cond_true, cond_false, loopE_done, loopE_ret]
    rw [hM101]
    exact ⟨rfl, (Ex.refl w)⟩
set_option maxRecDepth 100000 in
set_option maxHeartbeats 2000000 in
theorem c_g_slices_Equal_Idx {A1 : Option Addr} {c1 : Nat} {A3 : Option Addr} {c3 : Nat} {w : World} (p_s1 : List DIdx) (p_s2 : List DIdx) (h1 : RdS w (Iv 0 w.heap.size) (RF e_Idx) 3 A1 p_s1.length c1 p_s1) (h3 : RdS w (Iv 0 w.heap.size) (RF e_Idx) 3 A3 p_s2.length c3 p_s2) (o2 : (okL ok_Idx) p_s1) (o4 : (okL ok_Idx) p_s2) : Cal Try.prog 164 #[.slice A1 p_s1.length c1, .slice A3 p_s2.length c3] w fun v w' => v = .bool ((g_slices_Equal_Idx p_s1 p_s2)) ∧ Ex w w' := by
  have hol5 := o2.1
  have hol6 := o4.1
  refine Cal.of (vs := [.slice A1 p_s1.length c1, .slice A3 p_s2.length c3]) Try.func164 rfl Try.ntmps164 rfl ?_
  refine CW.seq ?_
  refine CW.region ?_
  refine SeqR.d1 rfl rfl rfl (yl_assign rfl rfl ?_)
  refine SeqR.done ?_
  refine tn ?_
  refine CW.seq ?_
  refine CW.seq ?_
  refine CW.region ?_
  refine SeqR.d1 rfl rfl rfl (yl_move rfl rfl ?_)
  refine SeqR.d1 rfl rfl rfl (yl_len Try.un33 rfl rfl ?_)
  refine SeqR.d1 rfl rfl rfl (yl_move rfl rfl ?_)
  refine SeqR.d1 rfl rfl rfl (yl_len Try.un33 rfl rfl ?_)
  refine SeqR.d1 rfl rfl rfl (yl_neq rfl rfl rfl ?_)
  refine SeqR.done ?_
  refine tn ?_
  refine bcase (decide ((p_s1.length : Int) = (p_s2.length : Int))) (fun hb7 => ?_) (fun hb7 => ?_)
  · have hb7p := dec_t hb7
    refine CW.cond_f rfl (not_t hb7) ?_
    refine CW.skip ?_
    refine tn ?_
    refine CW.seq ?_
    refine CW.seq ?_
    refine CW.region ?_
    refine SeqR.d1 rfl rfl rfl (yl_move rfl rfl ?_)
    refine SeqR.d1 rfl rfl rfl (yl_len Try.un33 rfl rfl ?_)
    refine SeqR.d1 rfl rfl rfl (yl_move rfl rfl ?_)
    refine SeqR.done ?_
    refine tn ?_
    refine CW.block ?_
    refine CW.loop (fun m9 L10 w11 => ∃ (k8 : Nat), m9 = p_s1.length - k8 ∧ k8 ≤ p_s1.length ∧ w.heap.size ≤ w11.heap.size ∧ lkp L10 0 = some (.slice A1 p_s1.length c1) ∧ lkp L10 1 = some (.slice A3 p_s2.length c3) ∧ lkp L10 12 = some (.int .i64 ((p_s1.length : Int))) ∧ lkp L10 13 = some (.int .i64 ((k8 : Int))) ∧ RdS w11 (Iv 0 w.heap.size) (RF e_Idx) 3 A1 p_s1.length c1 p_s1 ∧ RdS w11 (Iv 0 w.heap.size) (RF e_Idx) 3 A3 p_s2.length c3 p_s2 ∧ Ex w w11 ∧ loopM (B_g_slices_Equal_Idx_0 p_s1 p_s2) (p_s1.length - k8) k8 () = loopM (B_g_slices_Equal_Idx_0 p_s1 p_s2) (p_s1.length - 0) 0 ()) (p_s1.length - 0) ?_ ?_
    · exact ⟨0, rfl, (by omega), Nat.le_refl _, rfl, rfl, rfl, rfl, h1, h3, (Ex.refl w), rfl⟩
    · rintro m12 L13 w14 ⟨k8, rfl, hk15, hsz17, hl18, hl19, hl20, hl21, hf22, hf23, hf24, hI16⟩
      refine CW.sub (Sub.cons hl18 (Sub.cons hl19 (Sub.cons hl20 (Sub.cons hl21 (Sub.nil _))))) ?_
      have hf24z := Ex.size hf24
      have hbg25 := RdS.big hf22
      rcases Nat.lt_or_ge k8 p_s1.length with hlt26 | hlt26
      · skip
        refine CW.seq ?_
        refine CW.region ?_
        refine SeqR.d1 rfl rfl rfl (yl_lss rfl rfl rfl ?_)
        refine SeqR.done ?_
        refine tn ?_
        refine CW.seq ?_
        refine CW.cond_t rfl (lt_t hlt26) ?_
        refine CW.skip ?_
        refine tn ?_
        refine CW.seq ?_
        refine CW.block ?_
        refine CW.seq ?_
        refine CW.region ?_
        refine SeqR.d1 rfl rfl rfl (yl_move rfl rfl ?_)
        refine SeqR.d1 rfl rfl rfl (yl_assign rfl rfl ?_)
        refine SeqR.done ?_
        refine tn ?_
        refine CW.seq ?_
        obtain ⟨eb27, eo27, ec27, eA27, eS27, ebl27, el27, eR27, eC27⟩ := RdS.atD hf22 d_Idx (i := k8) (by first | omega | assumption)
        obtain rfl := eR27
        have eC27 : Cells w14 eb27 (eo27 + k8 * 3) [.string (bs ((p_s1.getD k8 d_Idx).Name)), .int .i64 ((p_s1.getD k8 d_Idx).Col), .int .i64 ((p_s1.getD k8 d_Idx).Stage)] := eC27
        obtain ⟨eb28, eo28, ec28, eA28, eS28, ebl28, el28, eR28, eC28⟩ := RdS.atD hf23 d_Idx (i := k8) (by first | omega | assumption)
        obtain rfl := eR28
        have eC28 : Cells w14 eb28 (eo28 + k8 * 3) [.string (bs ((p_s2.getD k8 d_Idx).Name)), .int .i64 ((p_s2.getD k8 d_Idx).Col), .int .i64 ((p_s2.getD k8 d_Idx).Stage)] := eC28
        refine CW.drawsI 9 (vgetI [DetI (.slice A1 p_s1.length c1), DetI (.int .i64 ((k8 : Int))), DetI (.pointer (some ⟨eb27, eo27 + k8 * 3, none⟩)), DetI (.agg #[.string (bs ((p_s1.getD k8 d_Idx).Name)), .int .i64 ((p_s1.getD k8 d_Idx).Col), .int .i64 ((p_s1.getD k8 d_Idx).Stage)]), DetI (.slice A3 p_s2.length c3), DetI (.int .i64 ((k8 : Int))), DetI (.pointer (some ⟨eb28, eo28 + k8 * 3, none⟩)), DetI (.agg #[.string (bs ((p_s2.getD k8 d_Idx).Name)), .int .i64 ((p_s2.getD k8 d_Idx).Col), .int .i64 ((p_s2.getD k8 d_Idx).Stage)]), DetI (.bool (!((((p_s1.getD k8 d_Idx).Name) == ((p_s2.getD k8 d_Idx).Name)) && ((decide (((p_s1.getD k8 d_Idx).Col) = ((p_s2.getD k8 d_Idx).Col))) && (decide (((p_s1.getD k8 d_Idx).Stage) = ((p_s2.getD k8 d_Idx).Stage)))))))]) Try.follows rfl rfl rfl rfl rfl rfl (vgetI_stable ⟨StableI.det _, StableI.det _, StableI.det _, StableI.det _, StableI.det _, StableI.det _, StableI.det _, StableI.det _, StableI.det _, trivial⟩) ⟨?_, ?_, ?_, ?_, ?_, ?_, ?_, ?_, ?_, trivial⟩ ?_
        · intro L29 w30 hi31
          have hE32 := hi31.ex
          have hE32z := Ex.size hE32
          have hx33 := hi31.old 0 _ rfl rfl
          exact OpR.op' rfl (Yl.sameI (yl_move rfl hx33 ⟨fun _ _ => rfl, rfl⟩))
        · intro L34 w35 hi36
          have hE37 := hi36.ex
          have hE37z := Ex.size hE37
          have hx38 := hi36.old 5 _ rfl rfl
          exact OpR.op' rfl (Yl.sameI (yl_move rfl hx38 ⟨fun _ _ => rfl, rfl⟩))
        · intro L39 w40 hi41
          have hE42 := hi41.ex
          have hE42z := Ex.size hE42
          obtain ⟨_, _, _, hx43, -, -, -, rfl⟩ := hi41.dep 0 16 rfl rfl
          obtain ⟨_, _, _, hx44, -, -, -, rfl⟩ := hi41.dep 1 17 rfl rfl
          exact OpR.op' rfl (Yl.sameI (yl_indexAddrN Try.un33 Try.ty132 rfl hx43 hx44 eA27 (by first | omega | assumption | (simp only [IntKind.wrap_i64] at *; omega)) ⟨fun _ _ => rfl, rfl⟩))
        · intro L45 w46 hi47
          have hE48 := hi47.ex
          have hE48z := Ex.size hE48
          obtain ⟨_, _, _, hx49, -, -, -, rfl⟩ := hi47.dep 2 18 rfl rfl
          have q50 := Cells.ex eC27 hE48
          exact OpR.op' rfl (Yl.sameI (yl_loadN (cs := [.string (bs ((p_s1.getD k8 d_Idx).Name)), .int .i64 ((p_s1.getD k8 d_Idx).Col), .int .i64 ((p_s1.getD k8 d_Idx).Stage)]) Try.ty132 rfl hx49 q50 rfl ⟨fun _ _ => rfl, rfl⟩))
        · intro L51 w52 hi53
          have hE54 := hi53.ex
          have hE54z := Ex.size hE54
          have hx55 := hi53.old 1 _ rfl rfl
          exact OpR.op' rfl (Yl.sameI (yl_move rfl hx55 ⟨fun _ _ => rfl, rfl⟩))
        · intro L56 w57 hi58
          have hE59 := hi58.ex
          have hE59z := Ex.size hE59
          have hx60 := hi58.old 5 _ rfl rfl
          exact OpR.op' rfl (Yl.sameI (yl_move rfl hx60 ⟨fun _ _ => rfl, rfl⟩))
        · intro L61 w62 hi63
          have hE64 := hi63.ex
          have hE64z := Ex.size hE64
          obtain ⟨_, _, _, hx65, -, -, -, rfl⟩ := hi63.dep 4 20 rfl rfl
          obtain ⟨_, _, _, hx66, -, -, -, rfl⟩ := hi63.dep 5 21 rfl rfl
          exact OpR.op' rfl (Yl.sameI (yl_indexAddrN Try.un33 Try.ty132 rfl hx65 hx66 eA28 (by first | omega | assumption | (simp only [IntKind.wrap_i64] at *; omega)) ⟨fun _ _ => rfl, rfl⟩))
        · intro L67 w68 hi69
          have hE70 := hi69.ex
          have hE70z := Ex.size hE70
          obtain ⟨_, _, _, hx71, -, -, -, rfl⟩ := hi69.dep 6 22 rfl rfl
          have q72 := Cells.ex eC28 hE70
          exact OpR.op' rfl (Yl.sameI (yl_loadN (cs := [.string (bs ((p_s2.getD k8 d_Idx).Name)), .int .i64 ((p_s2.getD k8 d_Idx).Col), .int .i64 ((p_s2.getD k8 d_Idx).Stage)]) Try.ty132 rfl hx71 q72 rfl ⟨fun _ _ => rfl, rfl⟩))
        · intro L73 w74 hi75
          have hE76 := hi75.ex
          have hE76z := Ex.size hE76
          obtain ⟨_, _, _, hx77, -, -, -, rfl⟩ := hi75.dep 3 19 rfl rfl
          obtain ⟨_, _, _, hx78, -, -, -, rfl⟩ := hi75.dep 7 23 rfl rfl
          exact OpR.op' rfl (Yl.sameI (yl_aneq (xs := [.string (bs ((p_s1.getD k8 d_Idx).Name)), .int .i64 ((p_s1.getD k8 d_Idx).Col), .int .i64 ((p_s1.getD k8 d_Idx).Stage)]) (ys := [.string (bs ((p_s2.getD k8 d_Idx).Name)), .int .i64 ((p_s2.getD k8 d_Idx).Col), .int .i64 ((p_s2.getD k8 d_Idx).Stage)]) Try.ae132 rfl hx77 hx78 ⟨fun _ _ => rfl, rfl⟩))
        · intro fl82 fh83 L79 w80 hp81
          have hE84 := hp81.ex
          have hE84z := Ex.size hE84
          have hx85 := hp81.old 0 _ rfl rfl
          have hx86 := hp81.old 1 _ rfl rfl
          have hx87 := hp81.old 12 _ rfl rfl
          have hx88 := hp81.old 13 _ rfl rfl
          obtain ⟨_, hx89, rfl⟩ := hp81.new 8 24 rfl rfl
          refine SeqR.done ?_
          refine tn ?_
          refine CW.sub (Sub.cons (d := 0) hx85 (Sub.cons (d := 1) hx86 (Sub.cons (d := 12) hx87 (Sub.cons (d := 13) hx88 (Sub.cons (d := 24) hx89 (Sub.nil _)))))) ?_
          refine bcase ((((p_s1.getD k8 d_Idx).Name) == ((p_s2.getD k8 d_Idx).Name)) && ((decide (((p_s1.getD k8 d_Idx).Col) = ((p_s2.getD k8 d_Idx).Col))) && (decide (((p_s1.getD k8 d_Idx).Stage) = ((p_s2.getD k8 d_Idx).Stage))))) (fun hb90 => ?_) (fun hb90 => ?_)
          · skip
            refine CW.cond_f rfl (not_t hb90) ?_
            refine CW.skip ?_
            refine bn ?_
            refine tn ?_
            refine CW.region ?_
            refine SeqR.d1 rfl rfl rfl (yl_inc rfl rfl rfl (by omega) ?_)
            refine SeqR.d1 rfl rfl rfl (yl_move rfl rfl ?_)
            refine SeqR.done ?_
            refine tn ?_
            have hB91 : B_g_slices_Equal_Idx_0 p_s1 p_s2 k8 () = .cont () := by simp only [B_g_slices_Equal_Idx_0, hb7, hb90, cond_true, cond_false, loopE_done, loopE_ret]
            have q92 := RdS.ex good_Idx hf22 hE84
            have q93 := RdS.ex good_Idx hf23 hE84
            have q94 := Ex.trans hf24 hE84
            exact ⟨p_s1.length - (k8 + 1), by omega, k8 + 1, rfl, hlt26, (by omega), rfl, rfl, rfl, rfl, q92, q93, q94, (loopM.cont hlt26 hB91).symm.trans hI16⟩
          · skip
            refine CW.cond_t rfl (not_f hb90) ?_
            refine CW.seq ?_
            refine CW.region ?_
            refine SeqR.d1 rfl rfl rfl (yl_assign rfl rfl ?_)
            refine SeqR.done ?_
            refine tn ?_
            refine CW.ret ?_
            refine br ?_
            refine tr ?_
            refine tr ?_
            have hB96 : B_g_slices_Equal_Idx_0 p_s1 p_s2 k8 () = .ret false := by simp only [B_g_slices_Equal_Idx_0, hb7, hb90, cond_true, cond_false, loopE_done, loopE_ret]
            have hL95 : loopM (B_g_slices_Equal_Idx_0 p_s1 p_s2) (p_s1.length - 0) 0 () = .ret false := hI16.symm.trans (loopM.ret hlt26 hB96)
            refine br ?_
            refine tr ?_
            refine rr rfl (.cons rfl .nil) ?_
            have hM97 : (g_slices_Equal_Idx p_s1 p_s2) = (false) := by simp only [g_slices_Equal_Idx, hb7, hb90, hL95, cond_true, cond_false, loopE_done, loopE_ret]
            rw [hM97]
            have q98 := Ex.trans hf24 hE84
            exact ⟨rfl, q98⟩
      · skip
        refine CW.seq ?_
        refine CW.region ?_
        refine SeqR.d1 rfl rfl rfl (yl_lss rfl rfl rfl ?_)
        refine SeqR.done ?_
        refine tn ?_
        refine CW.seq ?_
        refine CW.cond_f rfl (lt_f hlt26) ?_
        refine CW.exit ?_
        refine tx ?_
        refine tx ?_
        have hL99 : loopM (B_g_slices_Equal_Idx_0 p_s1 p_s2) (p_s1.length - 0) 0 () = .done () := hI16.symm.trans (loopM.stop hlt26)
        refine bx ?_
        refine tn ?_
        refine CW.seq ?_
        refine CW.region ?_
        refine SeqR.d1 rfl rfl rfl (yl_assign rfl rfl ?_)
        refine SeqR.done ?_
        refine tn ?_
        refine CW.ret ?_
        refine rr rfl (.cons rfl .nil) ?_
        have hM100 : (g_slices_Equal_Idx p_s1 p_s2) = (true) := by simp only [g_slices_Equal_Idx, hb7, hL99, cond_true, cond_false, loopE_done, loopE_ret]
        rw [hM100]
        exact ⟨rfl, hf24⟩
  · have hb7p := dec_f hb7
    refine CW.cond_t rfl (not_f hb7) ?_
    refine CW.seq ?_
    refine CW.region ?_
    refine SeqR.d1 rfl rfl rfl (yl_assign rfl rfl ?_)
    refine SeqR.done ?_
    refine tn ?_
    refine CW.ret ?_
    refine tr ?_
    refine rr rfl (.cons rfl .nil) ?_
    have hM101 : (g_slices_Equal_Idx p_s1 p_s2) = (false) := by simp only [g_slices_Equal_Idx, hb7, cond_true, cond_false, loopE_done, loopE_ret]
    rw [hM101]
    exact ⟨rfl, (Ex.refl w)⟩
set_option maxRecDepth 100000 in
set_option maxHeartbeats 2000000 in
theorem c_i_sameTable {A1 : Option Addr} {c1 : Nat} {A2 : Option Addr} {c2 : Nat} {A4 : Option Addr} {c4 : Nat} {A5 : Option Addr} {c5 : Nat} {w : World} (p_a : DTable) (p_b : DTable) (h1 : RdS w (Iv 0 w.heap.size) (RF e_Str) 1 A1 p_a.Cols.length c1 p_a.Cols) (h2 : RdS w (Iv 0 w.heap.size) (RF e_Idx) 3 A2 p_a.Idxs.length c2 p_a.Idxs) (h4 : RdS w (Iv 0 w.heap.size) (RF e_Str) 1 A4 p_b.Cols.length c4 p_b.Cols) (h5 : RdS w (Iv 0 w.heap.size) (RF e_Idx) 3 A5 p_b.Idxs.length c5 p_b.Idxs) (o3 : ok_Table p_a) (o6 : ok_Table p_b) : Cal Try.prog 94 #[.agg #[.string (bs (p_a.Name)), .slice A1 p_a.Cols.length c1, .slice A2 p_a.Idxs.length c2], .agg #[.string (bs (p_b.Name)), .slice A4 p_b.Cols.length c4, .slice A5 p_b.Idxs.length c5]] w fun v w' => v = .bool ((i_sameTable p_a p_b)) ∧ Ex w w' := by
  have hol7 : p_a.Name.length ≤ 1073741824 := o3.1
  have hol8 := o3.2.1.1
  have hol9 := o3.2.2.1
  have hol10 : p_b.Name.length ≤ 1073741824 := o6.1
  have hol11 := o6.2.1.1
  have hol12 := o6.2.2.1
  refine Cal.of (vs := [.agg #[.string (bs (p_a.Name)), .slice A1 p_a.Cols.length c1, .slice A2 p_a.Idxs.length c2], .agg #[.string (bs (p_b.Name)), .slice A4 p_b.Cols.length c4, .slice A5 p_b.Idxs.length c5]]) Try.func94 rfl Try.ntmps94 rfl ?_
  refine CW.seq ?_
  refine CW.region ?_
  refine SeqR.d1 rfl rfl rfl (yl_box (cs := [.string (bs (p_a.Name)), .slice A1 p_a.Cols.length c1, .slice A2 p_a.Idxs.length c2]) rfl rfl rfl ?_)
  intro b13 w14 hs15 hz16 hB17 hE18
  refine SeqR.d1 rfl rfl rfl (yl_box (cs := [.string (bs (p_b.Name)), .slice A4 p_b.Cols.length c4, .slice A5 p_b.Idxs.length c5]) rfl rfl rfl ?_)
  intro b19 w20 hs21 hz22 hB23 hE24
  refine SeqR.d1 rfl rfl rfl (yl_assign rfl rfl ?_)
  refine SeqR.done ?_
  refine tn ?_
  refine CW.seq ?_
  refine CW.region ?_
  refine SeqR.d1 rfl rfl rfl (yl_fieldAddr Try.fd35_0 rfl rfl ?_)
  have q25 := Box.ex hB17 hE24
  refine SeqR.d1 rfl rfl rfl (yl_load1 Try.ty9 rfl rfl ((q25.cell 0).trans rfl) ?_)
  refine SeqR.d1 rfl rfl rfl (yl_fieldAddr Try.fd35_0 rfl rfl ?_)
  refine SeqR.d1 rfl rfl rfl (yl_load1 Try.ty9 rfl rfl ((hB23.cell 0).trans rfl) ?_)
  refine SeqR.d1 rfl rfl rfl (yl_seql (a := p_a.Name) (b := p_b.Name) rfl rfl rfl ?_)
  refine SeqR.d1 rfl rfl rfl (yl_move rfl rfl ?_)
  refine bcase (p_a.Name == p_b.Name) (fun hb26 => ?_) (fun hb26 => ?_)
  · skip
    refine SeqR.y rfl rfl rfl rfl rfl hb26 (yl_fieldAddr Try.fd35_1 rfl rfl ?_)
    refine SeqR.y rfl rfl rfl rfl rfl hb26 (yl_load1 Try.ty22 rfl rfl ((q25.cell 1).trans rfl) ?_)
    refine SeqR.y rfl rfl rfl rfl rfl hb26 (yl_fieldAddr Try.fd35_1 rfl rfl ?_)
    refine SeqR.y rfl rfl rfl rfl rfl hb26 (yl_load1 Try.ty22 rfl rfl ((hB23.cell 1).trans rfl) ?_)
    have q27 := RdS.ex good_Str h1 hE18
    have q28 := RdS.ex good_Str q27 hE24
    have q29 := RdS.ex good_Str h4 hE18
    have q30 := RdS.ex good_Str q29 hE24
    refine SeqR.y rfl rfl rfl rfl rfl hb26 (yl_call Try.en163 rfl (opvs_cons rfl (opvs_cons rfl opvs_nil)) (Cal.mono (c_g_slices_Equal_string p_a.Cols p_b.Cols (RdS.up q28 good_Str) (RdS.up q30 good_Str) o3.2.1 o6.2.1) ?_))
    rintro v32 w31 ⟨rfl, hE33⟩
    have hE33z := Ex.size hE33
    refine SeqR.d1 rfl rfl rfl (yl_pick_t rfl rfl hb26 rfl ?_)
    refine SeqR.d1 rfl rfl rfl (yl_move rfl rfl ?_)
    refine bcase (g_slices_Equal_string p_a.Cols p_b.Cols) (fun hb34 => ?_) (fun hb34 => ?_)
    · skip
      refine SeqR.y rfl rfl rfl rfl rfl hb34 (yl_fieldAddr Try.fd35_2 rfl rfl ?_)
      have q35 := Box.ex q25 hE33
      refine SeqR.y rfl rfl rfl rfl rfl hb34 (yl_load1 Try.ty33 rfl rfl ((q35.cell 2).trans rfl) ?_)
      refine SeqR.y rfl rfl rfl rfl rfl hb34 (yl_fieldAddr Try.fd35_2 rfl rfl ?_)
      have q36 := Box.ex hB23 hE33
      refine SeqR.y rfl rfl rfl rfl rfl hb34 (yl_load1 Try.ty33 rfl rfl ((q36.cell 2).trans rfl) ?_)
      have q37 := RdS.ex good_Idx h2 hE18
      have q38 := RdS.ex good_Idx q37 hE24
      have q39 := RdS.ex good_Idx q38 hE33
      have q40 := RdS.ex good_Idx h5 hE18
      have q41 := RdS.ex good_Idx q40 hE24
      have q42 := RdS.ex good_Idx q41 hE33
      refine SeqR.y rfl rfl rfl rfl rfl hb34 (yl_call Try.en164 rfl (opvs_cons rfl (opvs_cons rfl opvs_nil)) (Cal.mono (c_g_slices_Equal_Idx p_a.Idxs p_b.Idxs (RdS.up q39 good_Idx) (RdS.up q42 good_Idx) o3.2.2 o6.2.2) ?_))
      rintro v44 w43 ⟨rfl, hE45⟩
      have hE45z := Ex.size hE45
      refine SeqR.d1 rfl rfl rfl (yl_pick_t rfl rfl hb34 rfl ?_)
      refine SeqR.d1 rfl rfl rfl (yl_assign rfl rfl ?_)
      refine SeqR.done ?_
      refine tn ?_
      refine CW.ret ?_
      refine rr rfl (.cons rfl .nil) ?_
      have hM46 : (i_sameTable p_a p_b) = ((g_slices_Equal_Idx p_a.Idxs p_b.Idxs)) := by simp only [i_sameTable, hb26, hb34, cond_true, cond_false, loopE_done, loopE_ret]
      rw [hM46]
      have q47 := Ex.trans (Ex.refl w) hE18
      have q48 := Ex.trans q47 hE24
      have q49 := Ex.trans q48 hE33
      have q50 := Ex.trans q49 hE45
      exact ⟨rfl, q50⟩
    · skip
      refine SeqR.z rfl rfl rfl rfl rfl hb34 ?_
      refine SeqR.z rfl rfl rfl rfl rfl hb34 ?_
      refine SeqR.z rfl rfl rfl rfl rfl hb34 ?_
      refine SeqR.z rfl rfl rfl rfl rfl hb34 ?_
      refine SeqR.z rfl rfl rfl rfl rfl hb34 ?_
      refine SeqR.d1 rfl rfl rfl (yl_pick_f rfl rfl hb34 rfl ?_)
      refine SeqR.d1 rfl rfl rfl (yl_assign rfl rfl ?_)
      refine SeqR.done ?_
      refine tn ?_
      refine CW.ret ?_
      refine rr rfl (.cons rfl .nil) ?_
      have hM51 : (i_sameTable p_a p_b) = (false) := by simp only [i_sameTable, hb26, hb34, cond_true, cond_false, loopE_done, loopE_ret]
      rw [hM51]
      have q52 := Ex.trans (Ex.refl w) hE18
      have q53 := Ex.trans q52 hE24
      have q54 := Ex.trans q53 hE33
      exact ⟨rfl, q54⟩
  · skip
    refine SeqR.z rfl rfl rfl rfl rfl hb26 ?_
    refine SeqR.z rfl rfl rfl rfl rfl hb26 ?_
    refine SeqR.z rfl rfl rfl rfl rfl hb26 ?_
    refine SeqR.z rfl rfl rfl rfl rfl hb26 ?_
    refine SeqR.z rfl rfl rfl rfl rfl hb26 ?_
    refine SeqR.d1 rfl rfl rfl (yl_pick_f rfl rfl hb26 rfl ?_)
    refine SeqR.d1 rfl rfl rfl (yl_move rfl rfl ?_)
    refine SeqR.z rfl rfl rfl rfl rfl rfl ?_
    refine SeqR.z rfl rfl rfl rfl rfl rfl ?_
    refine SeqR.z rfl rfl rfl rfl rfl rfl ?_
    refine SeqR.z rfl rfl rfl rfl rfl rfl ?_
    refine SeqR.z rfl rfl rfl rfl rfl rfl ?_
    refine SeqR.d1 rfl rfl rfl (yl_pick_f rfl rfl rfl rfl ?_)
    refine SeqR.d1 rfl rfl rfl (yl_assign rfl rfl ?_)
    refine SeqR.done ?_
    refine tn ?_
    refine CW.ret ?_
    refine rr rfl (.cons rfl .nil) ?_
    have hM55 : (i_sameTable p_a p_b) = (false) := by simp only [i_sameTable, hb26, cond_true, cond_false, loopE_done, loopE_ret]
    rw [hM55]
    have q56 := Ex.trans (Ex.refl w) hE18
    have q57 := Ex.trans q56 hE24
    exact ⟨rfl, q57⟩
set_option maxRecDepth 100000 in
set_option maxHeartbeats 2000000 in
theorem c_g_slices_IndexFunc_Idx {A1 : Option Addr} {c1 : Nat} {g3 : Nat} {cp4 : List Value} {w : World} (p_s : List DIdx) (p_f : DIdx → Bool) (h1 : RdS w (Iv 0 w.heap.size) (RF e_Idx) 3 A1 p_s.length c1 p_s) (hen5 : Enters Try.prog g3) (hfn6 : ∀ (w1 : World) (y0 : DIdx), Ex w w1 → y0 ∈ p_s → ok_Idx y0 → Cal Try.prog g3 (([.agg #[.string (bs (y0.Name)), .int .i64 (y0.Col), .int .i64 (y0.Stage)]] : List Value) ++ cp4).toArray w1 fun v w2 => v = .bool (p_f y0) ∧ Ex w1 w2) (o2 : (okL ok_Idx) p_s) : Cal Try.prog 191 #[.slice A1 p_s.length c1, .func (.func g3) #[] cp4.toArray] w fun v w' => v = .int .i64 ((g_slices_IndexFunc_Idx p_s p_f)) ∧ Ex w w' := by
  have hol7 := o2.1
  refine Cal.of (vs := [.slice A1 p_s.length c1, .func (.func g3) #[] cp4.toArray]) Try.func191 rfl Try.ntmps191 rfl ?_
  refine CW.seq ?_
  refine CW.region ?_
  refine SeqR.d1 rfl rfl rfl (yl_assign rfl rfl ?_)
  refine SeqR.done ?_
  refine tn ?_
  refine CW.seq ?_
  refine CW.seq ?_
  refine CW.region ?_
  refine SeqR.d1 rfl rfl rfl (yl_move rfl rfl ?_)
  refine SeqR.d1 rfl rfl rfl (yl_len Try.un33 rfl rfl ?_)
  refine SeqR.d1 rfl rfl rfl (yl_move rfl rfl ?_)
  refine SeqR.done ?_
  refine tn ?_
  refine CW.block ?_
  refine CW.loop (fun m9 L10 w11 => ∃ (k8 : Nat), m9 = p_s.length - k8 ∧ k8 ≤ p_s.length ∧ w.heap.size ≤ w11.heap.size ∧ lkp L10 0 = some (.slice A1 p_s.length c1) ∧ lkp L10 1 = some (.func (.func g3) #[] cp4.toArray) ∧ lkp L10 7 = some (.int .i64 ((p_s.length : Int))) ∧ lkp L10 8 = some (.int .i64 ((k8 : Int))) ∧ RdS w11 (Iv 0 w.heap.size) (RF e_Idx) 3 A1 p_s.length c1 p_s ∧ Ex w w11 ∧ loopM (B_g_slices_IndexFunc_Idx_0 p_s p_f) (p_s.length - k8) k8 () = loopM (B_g_slices_IndexFunc_Idx_0 p_s p_f) (p_s.length - 0) 0 ()) (p_s.length - 0) ?_ ?_
  · exact ⟨0, rfl, (by omega), Nat.le_refl _, rfl, rfl, rfl, rfl, h1, (Ex.refl w), rfl⟩
  · rintro m12 L13 w14 ⟨k8, rfl, hk15, hsz17, hl18, hl19, hl20, hl21, hf22, hf23, hI16⟩
    refine CW.sub (Sub.cons hl18 (Sub.cons hl19 (Sub.cons hl20 (Sub.cons hl21 (Sub.nil _))))) ?_
    have hf23z := Ex.size hf23
    have hbg24 := RdS.big hf22
    rcases Nat.lt_or_ge k8 p_s.length with hlt25 | hlt25
    · skip
      refine CW.seq ?_
      refine CW.region ?_
      refine SeqR.d1 rfl rfl rfl (yl_lss rfl rfl rfl ?_)
      refine SeqR.done ?_
      refine tn ?_
      refine CW.seq ?_
      refine CW.cond_t rfl (lt_t hlt25) ?_
      refine CW.skip ?_
      refine tn ?_
      refine CW.seq ?_
      refine CW.block ?_
      refine CW.seq ?_
      refine CW.region ?_
      refine SeqR.d1 rfl rfl rfl (yl_move rfl rfl ?_)
      refine SeqR.d1 rfl rfl rfl (yl_assign rfl rfl ?_)
      refine SeqR.done ?_
      refine tn ?_
      refine CW.seq ?_
      refine CW.region ?_
      refine SeqR.d1 rfl rfl rfl (yl_move rfl rfl ?_)
      refine SeqR.d1 rfl rfl rfl (yl_move rfl rfl ?_)
      refine SeqR.d1 rfl rfl rfl (yl_move rfl rfl ?_)
      obtain ⟨eb26, eo26, ec26, eA26, eS26, ebl26, el26, eR26, eC26⟩ := RdS.atD hf22 d_Idx (i := k8) (by first | omega | assumption)
      obtain rfl := eR26
      have eC26 : Cells w14 eb26 (eo26 + k8 * 3) [.string (bs ((p_s.getD k8 d_Idx).Name)), .int .i64 ((p_s.getD k8 d_Idx).Col), .int .i64 ((p_s.getD k8 d_Idx).Stage)] := eC26
      refine SeqR.d1 rfl rfl rfl (yl_indexAddrN Try.un33 Try.ty132 rfl rfl rfl eA26 (by first | omega | assumption | (simp only [IntKind.wrap_i64] at *; omega)) ?_)
      refine SeqR.d1 rfl rfl rfl (yl_loadN (cs := [.string (bs ((p_s.getD k8 d_Idx).Name)), .int .i64 ((p_s.getD k8 d_Idx).Col), .int .i64 ((p_s.getD k8 d_Idx).Stage)]) Try.ty132 rfl rfl eC26 rfl ?_)
      refine SeqR.d1 rfl rfl rfl (yl_callv hen5 rfl rfl (opvs_cons rfl opvs_nil) (Cal.mono (hfn6 w14 (p_s.getD k8 d_Idx) hf23 (getD_mem (by omega)) (okL.getD o2 ok_d_Idx _)) ?_))
      rintro v28 w27 ⟨rfl, hE29⟩
      have hE29z := Ex.size hE29
      refine SeqR.done ?_
      refine tn ?_
      refine bcase (p_f (p_s.getD k8 d_Idx)) (fun hb30 => ?_) (fun hb30 => ?_)
      · skip
        refine CW.cond_t rfl hb30 ?_
        refine CW.seq ?_
        refine CW.region ?_
        refine SeqR.d1 rfl rfl rfl (yl_move rfl rfl ?_)
        refine SeqR.d1 rfl rfl rfl (yl_assign rfl rfl ?_)
        refine SeqR.done ?_
        refine tn ?_
        refine CW.ret ?_
        refine br ?_
        refine tr ?_
        refine tr ?_
        have hB32 : B_g_slices_IndexFunc_Idx_0 p_s p_f k8 () = .ret (k8 : Int) := by simp only [B_g_slices_IndexFunc_Idx_0, hb30, cond_true, cond_false, loopE_done, loopE_ret]
        have hL31 : loopM (B_g_slices_IndexFunc_Idx_0 p_s p_f) (p_s.length - 0) 0 () = .ret (k8 : Int) := hI16.symm.trans (loopM.ret hlt25 hB32)
        refine br ?_
        refine tr ?_
        refine rr rfl (.cons rfl .nil) ?_
        have hM33 : (g_slices_IndexFunc_Idx p_s p_f) = ((k8 : Int)) := by simp only [g_slices_IndexFunc_Idx, hb30, hL31, cond_true, cond_false, loopE_done, loopE_ret]
        rw [hM33]
        have q34 := Ex.trans hf23 hE29
        exact ⟨rfl, q34⟩
      · skip
        refine CW.cond_f rfl hb30 ?_
        refine CW.skip ?_
        refine bn ?_
        refine tn ?_
        refine CW.region ?_
        refine SeqR.d1 rfl rfl rfl (yl_inc rfl rfl rfl (by omega) ?_)
        refine SeqR.d1 rfl rfl rfl (yl_move rfl rfl ?_)
        refine SeqR.done ?_
        refine tn ?_
        have hB35 : B_g_slices_IndexFunc_Idx_0 p_s p_f k8 () = .cont () := by simp only [B_g_slices_IndexFunc_Idx_0, hb30, cond_true, cond_false, loopE_done, loopE_ret]
        have q36 := RdS.ex good_Idx hf22 hE29
        have q37 := Ex.trans hf23 hE29
        exact ⟨p_s.length - (k8 + 1), by omega, k8 + 1, rfl, hlt25, (by omega), rfl, rfl, rfl, rfl, q36, q37, (loopM.cont hlt25 hB35).symm.trans hI16⟩
    · skip
      refine CW.seq ?_
      refine CW.region ?_
      refine SeqR.d1 rfl rfl rfl (yl_lss rfl rfl rfl ?_)
      refine SeqR.done ?_
      refine tn ?_
      refine CW.seq ?_
      refine CW.cond_f rfl (lt_f hlt25) ?_
      refine CW.exit ?_
      refine tx ?_
      refine tx ?_
      have hL38 : loopM (B_g_slices_IndexFunc_Idx_0 p_s p_f) (p_s.length - 0) 0 () = .done () := hI16.symm.trans (loopM.stop hlt25)
      refine bx ?_
      refine tn ?_
      refine CW.seq ?_
      refine CW.region ?_
      refine SeqR.d1 rfl rfl rfl (yl_assign rfl rfl ?_)
      refine SeqR.done ?_
      refine tn ?_
      refine CW.ret ?_
      refine rr rfl (.cons rfl .nil) ?_
      have hM39 : (g_slices_IndexFunc_Idx p_s p_f) = (-1) := by simp only [g_slices_IndexFunc_Idx, hL38, cond_true, cond_false, loopE_done, loopE_ret]
      rw [hM39]
      exact ⟨rfl, hf23⟩
set_option maxRecDepth 100000 in
set_option maxHeartbeats 2000000 in
theorem c_i_Table_findIdx_c1 {b2 : Nat} {w : World} (p_x : DIdx) (p_cap0 : Str) (h3 : Box w b2 9 [.string (bs (p_cap0))]) (o1 : ok_Idx p_x) (o4 : okS p_cap0) : Cal Try.prog 192 #[.agg #[.string (bs (p_x.Name)), .int .i64 (p_x.Col), .int .i64 (p_x.Stage)], .pointer (some ⟨b2, 0, none⟩)] w fun v w' => v = .bool ((i_Table_findIdx_c1 p_x p_cap0)) ∧ Ex w w' := by
  have hol5 : p_x.Name.length ≤ 1073741824 := o1
  have hol6 : p_cap0.length ≤ 1073741824 := o4
  refine Cal.of (vs := [.agg #[.string (bs (p_x.Name)), .int .i64 (p_x.Col), .int .i64 (p_x.Stage)], .pointer (some ⟨b2, 0, none⟩)]) Try.func192 rfl Try.ntmps192 rfl ?_
  refine CW.seq ?_
  refine CW.region ?_
  refine SeqR.d1 rfl rfl rfl (yl_box (cs := [.string (bs (p_x.Name)), .int .i64 (p_x.Col), .int .i64 (p_x.Stage)]) rfl rfl rfl ?_)
  intro b7 w8 hs9 hz10 hB11 hE12
  refine SeqR.d1 rfl rfl rfl (yl_assign rfl rfl ?_)
  refine SeqR.done ?_
  refine tn ?_
  refine CW.seq ?_
  refine CW.region ?_
  refine SeqR.d1 rfl rfl rfl (yl_fieldAddr Try.fd132_0 rfl rfl ?_)
  refine SeqR.d1 rfl rfl rfl (yl_load1 Try.ty9 rfl rfl ((hB11.cell 0).trans rfl) ?_)
  have q13 := Box.ex h3 hE12
  refine SeqR.d1 rfl rfl rfl (yl_load1 Try.ty9 rfl rfl ((q13.cell 0).trans rfl) ?_)
  refine SeqR.d1 rfl rfl rfl (yl_seql (a := p_x.Name) (b := p_cap0) rfl rfl rfl ?_)
  refine SeqR.d1 rfl rfl rfl (yl_assign rfl rfl ?_)
  refine SeqR.done ?_
  refine tn ?_
  refine CW.ret ?_
  refine rr rfl (.cons rfl .nil) ?_
  have hM14 : (i_Table_findIdx_c1 p_x p_cap0) = (p_x.Name == p_cap0) := by simp only [i_Table_findIdx_c1, cond_true, cond_false, loopE_done, loopE_ret]
  rw [hM14]
  have q15 := Ex.trans (Ex.refl w) hE12
  exact ⟨rfl, q15⟩
end Go.Proofs.Ytmlfbjlkccnpmaa
