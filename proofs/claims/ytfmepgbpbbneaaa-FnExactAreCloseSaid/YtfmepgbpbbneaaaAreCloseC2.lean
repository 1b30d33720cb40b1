/- Are Close: what each call returns, part 2. -/
import Derived.Test.YtfmepgbpbbneaaaAreCloseC1
set_option linter.unusedVariables false
set_option linter.unusedSimpArgs false
namespace Go.Proofs.Ytfmepgbpbbneaaa
open Go.RowKit Go.X
set_option maxRecDepth 100000 in
set_option maxHeartbeats 2000000 in
theorem c_s_l24SameCols {A1 : Option Addr} {c1 : Nat} {A2 : Option Addr} {c2 : Nat} {A4 : Option Addr} {c4 : Nat} {A5 : Option Addr} {c5 : Nat} {w : World} (p_0 : DTable) (p_1 : DTable) (h1 : RdS w (Iv 0 w.heap.size) (RF e_Str) 1 A1 p_0.Cols.length c1 p_0.Cols) (h2 : RdS w (Iv 0 w.heap.size) (RF e_Idx) 3 A2 p_0.Idxs.length c2 p_0.Idxs) (h4 : RdS w (Iv 0 w.heap.size) (RF e_Str) 1 A4 p_1.Cols.length c4 p_1.Cols) (h5 : RdS w (Iv 0 w.heap.size) (RF e_Idx) 3 A5 p_1.Idxs.length c5 p_1.Idxs) (o3 : ok_Table p_0) (o6 : ok_Table p_1) : Cal Try.prog 193 #[.agg #[.string (bs (p_0.Name)), .slice A1 p_0.Cols.length c1, .slice A2 p_0.Idxs.length c2], .agg #[.string (bs (p_1.Name)), .slice A4 p_1.Cols.length c4, .slice A5 p_1.Idxs.length c5]] w fun v w' => v = .bool ((s_l24SameCols p_0 p_1)) ∧ Ex w w' := by
 have hol7 : p_0.Name.length ≤ 1073741824 := o3.1
 have hol8 := o3.2.1.1
 have hol9 := o3.2.2.1
 have hol10 : p_1.Name.length ≤ 1073741824 := o6.1
 have hol11 := o6.2.1.1
 have hol12 := o6.2.2.1
 refine Cal.of (vs := [.agg #[.string (bs (p_0.Name)), .slice A1 p_0.Cols.length c1, .slice A2 p_0.Idxs.length c2], .agg #[.string (bs (p_1.Name)), .slice A4 p_1.Cols.length c4, .slice A5 p_1.Idxs.length c5]]) Try.func193 rfl Try.ntmps193 rfl (CW.seq (CW.region (sd rfl (yl_box (cs := [.string (bs (p_0.Name)), .slice A1 p_0.Cols.length c1, .slice A2 p_0.Idxs.length c2]) rfl rfl rfl ?_))))
 intro b13 w14 hs15 hz16 hB17 hE18
 refine sd rfl (yl_box (cs := [.string (bs (p_1.Name)), .slice A4 p_1.Cols.length c4, .slice A5 p_1.Idxs.length c5]) rfl rfl rfl ?_)
 intro b19 w20 hs21 hz22 hB23 hE24
 refine sd rfl (yl_assign rfl rfl (SeqR.done (tn (CW.seq (CW.seq (CW.region (sd rfl (yl_fieldAddr Try.fd59_0 rfl rfl ?_))))))))
 have q25 := Box.ex hB17 hE24
 refine sd rfl (yl_load1 Try.ty9 rfl rfl ((q25.cell 0).trans rfl) (sd rfl (yl_fieldAddr Try.fd59_0 rfl rfl (sd rfl (yl_load1 Try.ty9 rfl rfl ((hB23.cell 0).trans rfl) (sd rfl (yl_sneq (a := p_0.Name) (b := p_1.Name) rfl rfl rfl (sd rfl (yl_move rfl rfl (bcase (p_0.Name == p_1.Name) (fun hb26 => ?_) (fun hb26 => ?_)))))))))))
 ·refine sy rfl rfl (not_t hb26) (yl_fieldAddr Try.fd59_1 rfl rfl (sy rfl rfl (not_t hb26) (yl_load1 Try.ty45 rfl rfl ((q25.cell 1).trans rfl) (sy rfl rfl (not_t hb26) (yl_len Try.un45 rfl rfl (sy rfl rfl (not_t hb26) (yl_fieldAddr Try.fd59_1 rfl rfl (sy rfl rfl (not_t hb26) (yl_load1 Try.ty45 rfl rfl ((hB23.cell 1).trans rfl) (sy rfl rfl (not_t hb26) (yl_len Try.un45 rfl rfl (sy rfl rfl (not_t hb26) (yl_neq rfl rfl rfl (sd rfl (yl_pick_f rfl rfl (not_t hb26) rfl (sd rfl (yl_move rfl rfl ?_)))))))))))))))))
  refine bcase (decide ((p_0.Cols.length : Int) = (p_1.Cols.length : Int))) (fun hb27 => ?_) (fun hb27 => ?_)
  ·have hb27p := dec_t hb27
   refine sy rfl rfl (not_t hb27) (yl_fieldAddr Try.fd59_2 rfl rfl (sy rfl rfl (not_t hb27) (yl_load1 Try.ty57 rfl rfl ((q25.cell 2).trans rfl) (sy rfl rfl (not_t hb27) (yl_len Try.un57 rfl rfl (sy rfl rfl (not_t hb27) (yl_fieldAddr Try.fd59_2 rfl rfl (sy rfl rfl (not_t hb27) (yl_load1 Try.ty57 rfl rfl ((hB23.cell 2).trans rfl) (sy rfl rfl (not_t hb27) (yl_len Try.un57 rfl rfl (sy rfl rfl (not_t hb27) (yl_neq rfl rfl rfl (sd rfl (yl_pick_f rfl rfl (not_t hb27) rfl (SeqR.done ?_))))))))))))))))
   refine tn (bcase (decide ((p_0.Idxs.length : Int) = (p_1.Idxs.length : Int))) (fun hb28 => ?_) (fun hb28 => ?_))
   ·have hb28p := dec_t hb28
    refine CW.cond_f rfl (not_t hb28) (CW.skip (tn (CW.seq (CW.seq (CW.region (sd rfl (yl_fieldAddr Try.fd59_1 rfl rfl (sd rfl (yl_load1 Try.ty45 rfl rfl ((q25.cell 1).trans rfl) (sd rfl (yl_len Try.un45 rfl rfl ?_)))))))))))
    refine sd rfl (yl_move rfl rfl (SeqR.done (tn (CW.block (CW.loop (fun m30 L31 w32 => ∃ (k29 : Nat), m30 = p_0.Cols.length - k29 ∧ k29 ≤ p_0.Cols.length ∧ w20.heap.size ≤ w32.heap.size ∧ lkp L31 2 = some (.pointer (some ⟨b13, 0, none⟩)) ∧ lkp L31 3 = some (.pointer (some ⟨b19, 0, none⟩)) ∧ lkp L31 32 = some (.int .i64 ((p_0.Cols.length : Int))) ∧ lkp L31 33 = some (.int .i64 ((k29 : Int))) ∧ Box w32 b13 59 [.string (bs (p_0.Name)), .slice A1 p_0.Cols.length c1, .slice A2 p_0.Idxs.length c2] ∧ RdS w32 (Iv 0 w.heap.size) (RF e_Str) 1 A1 p_0.Cols.length c1 p_0.Cols ∧ RdS w32 (Iv 0 w.heap.size) (RF e_Idx) 3 A2 p_0.Idxs.length c2 p_0.Idxs ∧ Box w32 b19 59 [.string (bs (p_1.Name)), .slice A4 p_1.Cols.length c4, .slice A5 p_1.Idxs.length c5] ∧ RdS w32 (Iv 0 w.heap.size) (RF e_Str) 1 A4 p_1.Cols.length c4 p_1.Cols ∧ RdS w32 (Iv 0 w.heap.size) (RF e_Idx) 3 A5 p_1.Idxs.length c5 p_1.Idxs ∧ Ex w w32 ∧ loopM (B_s_l24SameCols_0 p_0 p_1) (p_0.Cols.length - k29) k29 () = loopM (B_s_l24SameCols_0 p_0 p_1) (p_0.Cols.length - 0) 0 ()) (p_0.Cols.length - 0) ?_ ?_)))))
    ·exact ⟨0, rfl, (by omega), Nat.le_refl _, rfl, rfl, rfl, rfl, q25, (RdS.ex good_Str (RdS.ex good_Str h1 hE18) hE24), (RdS.ex good_Idx (RdS.ex good_Idx h2 hE18) hE24), hB23, (RdS.ex good_Str (RdS.ex good_Str h4 hE18) hE24), (RdS.ex good_Idx (RdS.ex good_Idx h5 hE18) hE24), (Ex.trans (Ex.trans (Ex.refl w) hE18) hE24), rfl⟩
    ·rintro m43 L44 w45 ⟨k29, rfl, hk46, hsz48, hl49, hl50, hl51, hl52, hf53, hf54, hf55, hf56, hf57, hf58, hf59, hI47⟩
     refine CW.sub (Sub.cons hl49 (Sub.cons hl50 (Sub.cons hl51 (Sub.cons hl52 (Sub.nil _))))) ?_
     have hf53z := Box.lt hf53
     have hf56z := Box.lt hf56
     have hf59z := Ex.size hf59
     have hbg60 := RdS.big hf54
     rcases Nat.lt_or_ge k29 p_0.Cols.length with hlt61 | hlt61
     ·refine CW.seq (CW.region (sd rfl (yl_lss rfl rfl rfl (SeqR.done (tn (CW.seq (CW.cond_t rfl (lt_t hlt61) (CW.skip (tn ?_)))))))))
      refine CW.seq (CW.block (CW.seq (CW.region (sd rfl (yl_move rfl rfl (sd rfl (yl_assign rfl rfl (SeqR.done (tn (CW.seq ?_))))))))))
      obtain ⟨eb62, eo62, ec62, eA62, eS62, ebl62, el62, eR62, eC62⟩ := RdS.atD hf54 d_Str (i := k29) (by first | omega | assumption)
      obtain rfl := eR62
      have eC62 : Cells w45 eb62 (eo62 + k29 * 1) [.string (bs ((p_0.Cols.getD k29 d_Str)))] := eC62
      obtain ⟨eb63, eo63, ec63, eA63, eS63, ebl63, el63, eR63, eC63⟩ := RdS.atD hf57 d_Str (i := k29) (by first | omega | assumption)
      obtain rfl := eR63
      have eC63 : Cells w45 eb63 (eo63 + k29 * 1) [.string (bs ((p_1.Cols.getD k29 d_Str)))] := eC63
      refine CW.drawsI 11 (vgetI [DetI (.pointer (some ⟨b13, 0 + 1, none⟩)), DetI (.slice A1 p_0.Cols.length c1), DetI (.int .i64 ((k29 : Int))), DetI (.pointer (some ⟨eb62, eo62 + k29 * 1, none⟩)), DetI (.string (bs ((p_0.Cols.getD k29 d_Str)))), DetI (.pointer (some ⟨b19, 0 + 1, none⟩)), DetI (.slice A4 p_1.Cols.length c4), DetI (.int .i64 ((k29 : Int))), DetI (.pointer (some ⟨eb63, eo63 + k29 * 1, none⟩)), DetI (.string (bs ((p_1.Cols.getD k29 d_Str)))), DetI (.bool (!((p_0.Cols.getD k29 d_Str) == (p_1.Cols.getD k29 d_Str))))]) Try.follows rfl rfl rfl rfl rfl rfl (vgetI_stable ⟨StableI.det _, StableI.det _, StableI.det _, StableI.det _, StableI.det _, StableI.det _, StableI.det _, StableI.det _, StableI.det _, StableI.det _, StableI.det _, trivial⟩) ⟨?_, ?_, ?_, ?_, ?_, ?_, ?_, ?_, ?_, ?_, ?_, trivial⟩ ?_
      ·exact fun _ _ h => os rfl ((yl_fieldAddr Try.fd59_1 rfl (h.old 2 _ rfl rfl) kI))
      ·exact fun _ _ h => os rfl ((yl_load1 Try.ty45 rfl (h.dt 0 36 rfl rfl rfl) (((Box.ex hf53 h.ex).cell 1).trans rfl) kI))
      ·exact fun _ _ h => os rfl ((yl_move rfl (h.old 5 _ rfl rfl) kI))
      ·intro L80 w81 hi82
       have hE83 := hi82.ex
       have hE83z := Ex.size hE83
       exact os rfl ((yl_indexAddrN Try.un45 Try.ty9 rfl (hi82.dt 1 37 rfl rfl rfl) (hi82.dt 2 38 rfl rfl rfl) eA62 (by first | omega | assumption | (simp only [IntKind.wrap_i64] at *; omega)) kI))
      ·exact fun _ _ h => os rfl ((yl_load1 Try.ty9 rfl (h.dt 3 39 rfl rfl rfl) ((Cells.ex eC62 h.ex) 0 _ rfl) kI))
      ·exact fun _ _ h => os rfl ((yl_fieldAddr Try.fd59_1 rfl (h.old 3 _ rfl rfl) kI))
      ·exact fun _ _ h => os rfl ((yl_load1 Try.ty45 rfl (h.dt 5 41 rfl rfl rfl) (((Box.ex hf56 h.ex).cell 1).trans rfl) kI))
      ·exact fun _ _ h => os rfl ((yl_move rfl (h.old 5 _ rfl rfl) kI))
      ·intro L108 w109 hi110
       have hE111 := hi110.ex
       have hE111z := Ex.size hE111
       exact os rfl ((yl_indexAddrN Try.un45 Try.ty9 rfl (hi110.dt 6 42 rfl rfl rfl) (hi110.dt 7 43 rfl rfl rfl) eA63 (by first | omega | assumption | (simp only [IntKind.wrap_i64] at *; omega)) kI))
      ·exact fun _ _ h => os rfl ((yl_load1 Try.ty9 rfl (h.dt 8 44 rfl rfl rfl) ((Cells.ex eC63 h.ex) 0 _ rfl) kI))
      ·exact fun _ _ h => os rfl ((yl_sneq (a := (p_0.Cols.getD k29 d_Str)) (b := (p_1.Cols.getD k29 d_Str)) rfl (h.dt 4 40 rfl rfl rfl) (h.dt 9 45 rfl rfl rfl) kI))
      ·intro fl129 fh130 L126 w127 hp128
       have hE131 := hp128.ex
       have hE131z := Ex.size hE131
       refine SeqR.done (tn (CW.sub (Sub.cons (d := 2) (hp128.old 2 _ rfl rfl) (Sub.cons (d := 3) (hp128.old 3 _ rfl rfl) (Sub.cons (d := 32) (hp128.old 32 _ rfl rfl) (Sub.cons (d := 33) (hp128.old 33 _ rfl rfl) (Sub.cons (d := 46) (hp128.nt 10 46 rfl rfl rfl) (Sub.nil _)))))) (bcase ((p_0.Cols.getD k29 d_Str) == (p_1.Cols.getD k29 d_Str)) (fun hb137 => ?_) (fun hb137 => ?_))))
       ·refine CW.cond_f rfl (not_t hb137) (CW.skip (bn (tn (CW.region (sd rfl (yl_inc rfl rfl rfl (by omega) (sd rfl (yl_move rfl rfl (SeqR.done (tn ?_))))))))))
        have hB138 : B_s_l24SameCols_0 p_0 p_1 k29 () = .cont () := by simp only [B_s_l24SameCols_0, hb26, hb27, hb28, hb137, cond_true, cond_false, loopE_done, loopE_ret]
        exact ⟨p_0.Cols.length - (k29 + 1), by omega, k29 + 1, rfl, hlt61, (by omega), rfl, rfl, rfl, rfl, (Box.ex hf53 hE131), (RdS.ex good_Str hf54 hE131), (RdS.ex good_Idx hf55 hE131), (Box.ex hf56 hE131), (RdS.ex good_Str hf57 hE131), (RdS.ex good_Idx hf58 hE131), (Ex.trans hf59 hE131), (loopM.cont hlt61 hB138).symm.trans hI47⟩
       ·refine CW.cond_t rfl (not_f hb137) (CW.seq (CW.region (sd rfl (yl_assign rfl rfl (SeqR.done (tn (CW.ret (br (tr ?_)))))))))
        refine tr ?_
        have hB147 : B_s_l24SameCols_0 p_0 p_1 k29 () = .ret false := by simp only [B_s_l24SameCols_0, hb26, hb27, hb28, hb137, cond_true, cond_false, loopE_done, loopE_ret]
        have hL146 : loopM (B_s_l24SameCols_0 p_0 p_1) (p_0.Cols.length - 0) 0 () = .ret false := hI47.symm.trans (loopM.ret hlt61 hB147)
        refine br (tr (rr rfl (.cons rfl .nil) ?_))
        have hM148 : (s_l24SameCols p_0 p_1) = (false) := by simp only [s_l24SameCols, hb26, hb27, hb28, hb137, hL146, cond_true, cond_false, loopE_done, loopE_ret]
        rw [hM148]
        exact ⟨rfl, (Ex.trans hf59 hE131)⟩
     ·refine CW.seq (CW.region (sd rfl (yl_lss rfl rfl rfl (SeqR.done (tn (CW.seq (CW.cond_f rfl (lt_f hlt61) (CW.exit (tx ?_)))))))))
      refine tx ?_
      have hL150 : loopM (B_s_l24SameCols_0 p_0 p_1) (p_0.Cols.length - 0) 0 () = .done () := hI47.symm.trans (loopM.stop hlt61)
      refine bx (tn (CW.seq (CW.seq (CW.region (sd rfl (yl_fieldAddr Try.fd59_2 rfl rfl (sd rfl (yl_load1 Try.ty57 rfl rfl ((hf53.cell 2).trans rfl) (sd rfl (yl_len Try.un57 rfl rfl (sd rfl (yl_move rfl rfl ?_))))))))))))
      refine SeqR.done (tn (CW.block (CW.loop (fun m152 L153 w154 => ∃ (k151 : Nat), m152 = p_0.Idxs.length - k151 ∧ k151 ≤ p_0.Idxs.length ∧ w45.heap.size ≤ w154.heap.size ∧ lkp L153 2 = some (.pointer (some ⟨b13, 0, none⟩)) ∧ lkp L153 3 = some (.pointer (some ⟨b19, 0, none⟩)) ∧ lkp L153 50 = some (.int .i64 ((p_0.Idxs.length : Int))) ∧ lkp L153 51 = some (.int .i64 ((k151 : Int))) ∧ Box w154 b13 59 [.string (bs (p_0.Name)), .slice A1 p_0.Cols.length c1, .slice A2 p_0.Idxs.length c2] ∧ RdS w154 (Iv 0 w.heap.size) (RF e_Str) 1 A1 p_0.Cols.length c1 p_0.Cols ∧ RdS w154 (Iv 0 w.heap.size) (RF e_Idx) 3 A2 p_0.Idxs.length c2 p_0.Idxs ∧ Box w154 b19 59 [.string (bs (p_1.Name)), .slice A4 p_1.Cols.length c4, .slice A5 p_1.Idxs.length c5] ∧ RdS w154 (Iv 0 w.heap.size) (RF e_Str) 1 A4 p_1.Cols.length c4 p_1.Cols ∧ RdS w154 (Iv 0 w.heap.size) (RF e_Idx) 3 A5 p_1.Idxs.length c5 p_1.Idxs ∧ Ex w w154 ∧ loopM (B_s_l24SameCols_1 p_0 p_1) (p_0.Idxs.length - k151) k151 () = loopM (B_s_l24SameCols_1 p_0 p_1) (p_0.Idxs.length - 0) 0 ()) (p_0.Idxs.length - 0) ?_ ?_)))
      ·exact ⟨0, rfl, (by omega), Nat.le_refl _, rfl, rfl, rfl, rfl, hf53, hf54, hf55, hf56, hf57, hf58, hf59, rfl⟩
      ·rintro m155 L156 w157 ⟨k151, rfl, hk158, hsz160, hl161, hl162, hl163, hl164, hf165, hf166, hf167, hf168, hf169, hf170, hf171, hI159⟩
       refine CW.sub (Sub.cons hl161 (Sub.cons hl162 (Sub.cons hl163 (Sub.cons hl164 (Sub.nil _))))) ?_
       have hf165z := Box.lt hf165
       have hf168z := Box.lt hf168
       have hf171z := Ex.size hf171
       have hbg172 := RdS.big hf167
       rcases Nat.lt_or_ge k151 p_0.Idxs.length with hlt173 | hlt173
       ·refine CW.seq (CW.region (sd rfl (yl_lss rfl rfl rfl (SeqR.done (tn (CW.seq (CW.cond_t rfl (lt_t hlt173) (CW.skip (tn ?_)))))))))
        refine CW.seq (CW.block (CW.seq (CW.region (sd rfl (yl_move rfl rfl (sd rfl (yl_assign rfl rfl (SeqR.done (tn (CW.seq ?_))))))))))
        obtain ⟨eb174, eo174, ec174, eA174, eS174, ebl174, el174, eR174, eC174⟩ := RdS.atD hf167 d_Idx (i := k151) (by first | omega | assumption)
        obtain rfl := eR174
        have eC174 : Cells w157 eb174 (eo174 + k151 * 3) [.string (bs ((p_0.Idxs.getD k151 d_Idx).Name)), .int .i64 ((p_0.Idxs.getD k151 d_Idx).Col), .int .i64 ((p_0.Idxs.getD k151 d_Idx).Stage)] := eC174
        obtain ⟨eb175, eo175, ec175, eA175, eS175, ebl175, el175, eR175, eC175⟩ := RdS.atD hf170 d_Idx (i := k151) (by first | omega | assumption)
        obtain rfl := eR175
        have eC175 : Cells w157 eb175 (eo175 + k151 * 3) [.string (bs ((p_1.Idxs.getD k151 d_Idx).Name)), .int .i64 ((p_1.Idxs.getD k151 d_Idx).Col), .int .i64 ((p_1.Idxs.getD k151 d_Idx).Stage)] := eC175
        refine bcase (((p_0.Idxs.getD k151 d_Idx).Name) == ((p_1.Idxs.getD k151 d_Idx).Name)) (fun hb176 => ?_) (fun hb176 => ?_)
        ·obtain ⟨eb177, eo177, ec177, eA177, eS177, ebl177, el177, eR177, eC177⟩ := RdS.atD hf167 d_Idx (i := k151) (by first | omega | assumption)
         obtain rfl := eR177
         have eC177 : Cells w157 eb177 (eo177 + k151 * 3) [.string (bs ((p_0.Idxs.getD k151 d_Idx).Name)), .int .i64 ((p_0.Idxs.getD k151 d_Idx).Col), .int .i64 ((p_0.Idxs.getD k151 d_Idx).Stage)] := eC177
         obtain ⟨eb178, eo178, ec178, eA178, eS178, ebl178, el178, eR178, eC178⟩ := RdS.atD hf170 d_Idx (i := k151) (by first | omega | assumption)
         obtain rfl := eR178
         have eC178 : Cells w157 eb178 (eo178 + k151 * 3) [.string (bs ((p_1.Idxs.getD k151 d_Idx).Name)), .int .i64 ((p_1.Idxs.getD k151 d_Idx).Col), .int .i64 ((p_1.Idxs.getD k151 d_Idx).Stage)] := eC178
         refine CW.drawsI 28 (vgetI [DetI (.pointer (some ⟨b13, 0 + 2, none⟩)), DetI (.slice A2 p_0.Idxs.length c2), DetI (.int .i64 ((k151 : Int))), DetI (.pointer (some ⟨eb177, eo177 + k151 * 3, none⟩)), DetI (.pointer (some ⟨eb177, eo177 + k151 * 3 + 0, none⟩)), DetI (.string (bs ((p_0.Idxs.getD k151 d_Idx).Name))), DetI (.pointer (some ⟨b19, 0 + 2, none⟩)), DetI (.slice A5 p_1.Idxs.length c5), DetI (.int .i64 ((k151 : Int))), DetI (.pointer (some ⟨eb178, eo178 + k151 * 3, none⟩)), DetI (.pointer (some ⟨eb178, eo178 + k151 * 3 + 0, none⟩)), DetI (.string (bs ((p_1.Idxs.getD k151 d_Idx).Name))), DetI (.bool (!(((p_0.Idxs.getD k151 d_Idx).Name) == ((p_1.Idxs.getD k151 d_Idx).Name)))), DetI (.bool (!(((p_0.Idxs.getD k151 d_Idx).Name) == ((p_1.Idxs.getD k151 d_Idx).Name)))), DetI (.pointer (some ⟨b13, 0 + 2, none⟩)), DetI (.slice A2 p_0.Idxs.length c2), DetI (.int .i64 ((k151 : Int))), DetI (.pointer (some ⟨eb177, eo177 + k151 * 3, none⟩)), DetI (.pointer (some ⟨eb177, eo177 + k151 * 3 + 1, none⟩)), DetI (.int .i64 ((p_0.Idxs.getD k151 d_Idx).Col)), DetI (.pointer (some ⟨b19, 0 + 2, none⟩)), DetI (.slice A5 p_1.Idxs.length c5), DetI (.int .i64 ((k151 : Int))), DetI (.pointer (some ⟨eb178, eo178 + k151 * 3, none⟩)), DetI (.pointer (some ⟨eb178, eo178 + k151 * 3 + 1, none⟩)), DetI (.int .i64 ((p_1.Idxs.getD k151 d_Idx).Col)), DetI (.bool (!(decide (((p_0.Idxs.getD k151 d_Idx).Col) = ((p_1.Idxs.getD k151 d_Idx).Col))))), DetI (.bool (!(decide (((p_0.Idxs.getD k151 d_Idx).Col) = ((p_1.Idxs.getD k151 d_Idx).Col)))))]) Try.follows rfl rfl rfl rfl rfl rfl (vgetI_stable ⟨StableI.det _, StableI.det _, StableI.det _, StableI.det _, StableI.det _, StableI.det _, StableI.det _, StableI.det _, StableI.det _, StableI.det _, StableI.det _, StableI.det _, StableI.det _, StableI.det _, StableI.det _, StableI.det _, StableI.det _, StableI.det _, StableI.det _, StableI.det _, StableI.det _, StableI.det _, StableI.det _, StableI.det _, StableI.det _, StableI.det _, StableI.det _, StableI.det _, trivial⟩) ⟨?_, ?_, ?_, ?_, ?_, ?_, ?_, ?_, ?_, ?_, ?_, ?_, ?_, ?_, ?_, ?_, ?_, ?_, ?_, ?_, ?_, ?_, ?_, ?_, ?_, ?_, ?_, ?_, trivial⟩ ?_
         ·exact fun _ _ h => os rfl ((yl_fieldAddr Try.fd59_2 rfl (h.old 2 _ rfl rfl) kI))
         ·exact fun _ _ h => os rfl ((yl_load1 Try.ty57 rfl (h.dt 0 54 rfl rfl rfl) (((Box.ex hf165 h.ex).cell 2).trans rfl) kI))
         ·exact fun _ _ h => os rfl ((yl_move rfl (h.old 6 _ rfl rfl) kI))
         ·intro L195 w196 hi197
          have hE198 := hi197.ex
          have hE198z := Ex.size hE198
          exact os rfl ((yl_indexAddrN Try.un57 Try.ty177 rfl (hi197.dt 1 55 rfl rfl rfl) (hi197.dt 2 56 rfl rfl rfl) eA177 (by first | omega | assumption | (simp only [IntKind.wrap_i64] at *; omega)) kI))
         ·exact fun _ _ h => os rfl ((yl_fieldAddr Try.fd177_0 rfl (h.dt 3 57 rfl rfl rfl) kI))
         ·exact fun _ _ h => os rfl ((yl_load1 Try.ty9 rfl (h.dt 4 58 rfl rfl rfl) ((Cells.ex eC177 h.ex) 0 _ rfl) kI))
         ·exact fun _ _ h => os rfl ((yl_fieldAddr Try.fd59_2 rfl (h.old 3 _ rfl rfl) kI))
         ·exact fun _ _ h => os rfl ((yl_load1 Try.ty57 rfl (h.dt 6 60 rfl rfl rfl) (((Box.ex hf168 h.ex).cell 2).trans rfl) kI))
         ·exact fun _ _ h => os rfl ((yl_move rfl (h.old 6 _ rfl rfl) kI))
         ·intro L228 w229 hi230
          have hE231 := hi230.ex
          have hE231z := Ex.size hE231
          exact os rfl ((yl_indexAddrN Try.un57 Try.ty177 rfl (hi230.dt 7 61 rfl rfl rfl) (hi230.dt 8 62 rfl rfl rfl) eA178 (by first | omega | assumption | (simp only [IntKind.wrap_i64] at *; omega)) kI))
         ·exact fun _ _ h => os rfl ((yl_fieldAddr Try.fd177_0 rfl (h.dt 9 63 rfl rfl rfl) kI))
         ·exact fun _ _ h => os rfl ((yl_load1 Try.ty9 rfl (h.dt 10 64 rfl rfl rfl) ((Cells.ex eC178 h.ex) 0 _ rfl) kI))
         ·exact fun _ _ h => os rfl ((yl_sneq (a := ((p_0.Idxs.getD k151 d_Idx).Name)) (b := ((p_1.Idxs.getD k151 d_Idx).Name)) rfl (h.dt 5 59 rfl rfl rfl) (h.dt 11 65 rfl rfl rfl) kI))
         ·exact fun _ _ h => os rfl ((yl_move rfl (h.dt 12 66 rfl rfl rfl) kI))
         ·exact fun _ _ h => OpR.want rfl rfl (h.dt 13 67 rfl rfl rfl) (not_t hb176) (Yl.sameI (yl_fieldAddr Try.fd59_2 rfl (h.old 2 _ rfl rfl) kI))
         ·exact fun _ _ h => OpR.want rfl rfl (h.dt 13 67 rfl rfl rfl) (not_t hb176) (Yl.sameI (yl_load1 Try.ty57 rfl (h.dt 14 68 rfl rfl rfl) (((Box.ex hf165 h.ex).cell 2).trans rfl) kI))
         ·exact fun _ _ h => OpR.want rfl rfl (h.dt 13 67 rfl rfl rfl) (not_t hb176) (Yl.sameI (yl_move rfl (h.old 6 _ rfl rfl) kI))
         ·intro L275 w276 hi277
          have hE278 := hi277.ex
          have hE278z := Ex.size hE278
          exact OpR.want rfl rfl (hi277.dt 13 67 rfl rfl rfl) (not_t hb176) (Yl.sameI (yl_indexAddrN Try.un57 Try.ty177 rfl (hi277.dt 15 69 rfl rfl rfl) (hi277.dt 16 70 rfl rfl rfl) eA177 (by first | omega | assumption | (simp only [IntKind.wrap_i64] at *; omega)) kI))
         ·exact fun _ _ h => OpR.want rfl rfl (h.dt 13 67 rfl rfl rfl) (not_t hb176) (Yl.sameI (yl_fieldAddr Try.fd177_1 rfl (h.dt 17 71 rfl rfl rfl) kI))
         ·exact fun _ _ h => OpR.want rfl rfl (h.dt 13 67 rfl rfl rfl) (not_t hb176) (Yl.sameI (yl_load1 Try.ty3 rfl (h.dt 18 72 rfl rfl rfl) ((Cells.ex eC177 h.ex) 1 _ rfl) kI))
         ·exact fun _ _ h => OpR.want rfl rfl (h.dt 13 67 rfl rfl rfl) (not_t hb176) (Yl.sameI (yl_fieldAddr Try.fd59_2 rfl (h.old 3 _ rfl rfl) kI))
         ·exact fun _ _ h => OpR.want rfl rfl (h.dt 13 67 rfl rfl rfl) (not_t hb176) (Yl.sameI (yl_load1 Try.ty57 rfl (h.dt 20 74 rfl rfl rfl) (((Box.ex hf168 h.ex).cell 2).trans rfl) kI))
         ·exact fun _ _ h => OpR.want rfl rfl (h.dt 13 67 rfl rfl rfl) (not_t hb176) (Yl.sameI (yl_move rfl (h.old 6 _ rfl rfl) kI))
         ·intro L314 w315 hi316
          have hE317 := hi316.ex
          have hE317z := Ex.size hE317
          exact OpR.want rfl rfl (hi316.dt 13 67 rfl rfl rfl) (not_t hb176) (Yl.sameI (yl_indexAddrN Try.un57 Try.ty177 rfl (hi316.dt 21 75 rfl rfl rfl) (hi316.dt 22 76 rfl rfl rfl) eA178 (by first | omega | assumption | (simp only [IntKind.wrap_i64] at *; omega)) kI))
         ·exact fun _ _ h => OpR.want rfl rfl (h.dt 13 67 rfl rfl rfl) (not_t hb176) (Yl.sameI (yl_fieldAddr Try.fd177_1 rfl (h.dt 23 77 rfl rfl rfl) kI))
         ·exact fun _ _ h => OpR.want rfl rfl (h.dt 13 67 rfl rfl rfl) (not_t hb176) (Yl.sameI (yl_load1 Try.ty3 rfl (h.dt 24 78 rfl rfl rfl) ((Cells.ex eC178 h.ex) 1 _ rfl) kI))
         ·exact fun _ _ h => OpR.want rfl rfl (h.dt 13 67 rfl rfl rfl) (not_t hb176) (Yl.sameI (yl_neq rfl (h.dt 19 73 rfl rfl rfl) (h.dt 25 79 rfl rfl rfl) kI))
         ·exact fun _ _ h => os rfl ((yl_pick_f rfl (h.dt 13 67 rfl rfl rfl) (not_t hb176) (h.dt 26 80 rfl rfl rfl) kI))
         ·intro fl350 fh351 L347 w348 hp349
          have hE352 := hp349.ex
          have hE352z := Ex.size hE352
          refine SeqR.done (tn (CW.sub (Sub.cons (d := 2) (hp349.old 2 _ rfl rfl) (Sub.cons (d := 3) (hp349.old 3 _ rfl rfl) (Sub.cons (d := 50) (hp349.old 50 _ rfl rfl) (Sub.cons (d := 51) (hp349.old 51 _ rfl rfl) (Sub.cons (d := 68) (hp349.nt 14 68 rfl rfl rfl) (Sub.cons (d := 69) (hp349.nt 15 69 rfl rfl rfl) (Sub.cons (d := 70) (hp349.nt 16 70 rfl rfl rfl) (Sub.cons (d := 71) (hp349.nt 17 71 rfl rfl rfl) (Sub.cons (d := 72) (hp349.nt 18 72 rfl rfl rfl) (Sub.cons (d := 73) (hp349.nt 19 73 rfl rfl rfl) (Sub.cons (d := 74) (hp349.nt 20 74 rfl rfl rfl) (Sub.cons (d := 75) (hp349.nt 21 75 rfl rfl rfl) (Sub.cons (d := 76) (hp349.nt 22 76 rfl rfl rfl) (Sub.cons (d := 77) (hp349.nt 23 77 rfl rfl rfl) (Sub.cons (d := 78) (hp349.nt 24 78 rfl rfl rfl) (Sub.cons (d := 79) (hp349.nt 25 79 rfl rfl rfl) (Sub.cons (d := 80) (hp349.nt 26 80 rfl rfl rfl) (Sub.cons (d := 81) (hp349.nt 27 81 rfl rfl rfl) (Sub.nil _))))))))))))))))))) (bcase (decide (((p_0.Idxs.getD k151 d_Idx).Col) = ((p_1.Idxs.getD k151 d_Idx).Col))) (fun hb371 => ?_) (fun hb371 => ?_))))
          ·have hb371p := dec_t hb371
           refine CW.cond_f rfl (not_t hb371) (CW.skip (bn (tn (CW.region (sd rfl (yl_inc rfl rfl rfl (by omega) (sd rfl (yl_move rfl rfl (SeqR.done (tn ?_))))))))))
           have hB372 : B_s_l24SameCols_1 p_0 p_1 k151 () = .cont () := by simp only [B_s_l24SameCols_1, hb26, hb27, hb28, hb176, hb371, hL150, cond_true, cond_false, loopE_done, loopE_ret]
           exact ⟨p_0.Idxs.length - (k151 + 1), by omega, k151 + 1, rfl, hlt173, (by omega), rfl, rfl, rfl, rfl, (Box.ex hf165 hE352), (RdS.ex good_Str hf166 hE352), (RdS.ex good_Idx hf167 hE352), (Box.ex hf168 hE352), (RdS.ex good_Str hf169 hE352), (RdS.ex good_Idx hf170 hE352), (Ex.trans hf171 hE352), (loopM.cont hlt173 hB372).symm.trans hI159⟩
          ·have hb371p := dec_f hb371
           refine CW.cond_t rfl (not_f hb371) (CW.seq (CW.region (sd rfl (yl_assign rfl rfl (SeqR.done (tn (CW.ret (br (tr ?_)))))))))
           refine tr ?_
           have hB381 : B_s_l24SameCols_1 p_0 p_1 k151 () = .ret false := by simp only [B_s_l24SameCols_1, hb26, hb27, hb28, hb176, hb371, hL150, cond_true, cond_false, loopE_done, loopE_ret]
           have hL380 : loopM (B_s_l24SameCols_1 p_0 p_1) (p_0.Idxs.length - 0) 0 () = .ret false := hI159.symm.trans (loopM.ret hlt173 hB381)
           refine br (tr (rr rfl (.cons rfl .nil) ?_))
           have hM382 : (s_l24SameCols p_0 p_1) = (false) := by simp only [s_l24SameCols, hb26, hb27, hb28, hb176, hb371, hL150, hL380, cond_true, cond_false, loopE_done, loopE_ret]
           rw [hM382]
           exact ⟨rfl, (Ex.trans hf171 hE352)⟩
        ·obtain ⟨eb384, eo384, ec384, eA384, eS384, ebl384, el384, eR384, eC384⟩ := RdS.atD hf167 d_Idx (i := k151) (by first | omega | assumption)
         obtain rfl := eR384
         have eC384 : Cells w157 eb384 (eo384 + k151 * 3) [.string (bs ((p_0.Idxs.getD k151 d_Idx).Name)), .int .i64 ((p_0.Idxs.getD k151 d_Idx).Col), .int .i64 ((p_0.Idxs.getD k151 d_Idx).Stage)] := eC384
         obtain ⟨eb385, eo385, ec385, eA385, eS385, ebl385, el385, eR385, eC385⟩ := RdS.atD hf170 d_Idx (i := k151) (by first | omega | assumption)
         obtain rfl := eR385
         have eC385 : Cells w157 eb385 (eo385 + k151 * 3) [.string (bs ((p_1.Idxs.getD k151 d_Idx).Name)), .int .i64 ((p_1.Idxs.getD k151 d_Idx).Col), .int .i64 ((p_1.Idxs.getD k151 d_Idx).Stage)] := eC385
         refine CW.drawsI 28 (vgetI [DetI (.pointer (some ⟨b13, 0 + 2, none⟩)), DetI (.slice A2 p_0.Idxs.length c2), DetI (.int .i64 ((k151 : Int))), DetI (.pointer (some ⟨eb384, eo384 + k151 * 3, none⟩)), DetI (.pointer (some ⟨eb384, eo384 + k151 * 3 + 0, none⟩)), DetI (.string (bs ((p_0.Idxs.getD k151 d_Idx).Name))), DetI (.pointer (some ⟨b19, 0 + 2, none⟩)), DetI (.slice A5 p_1.Idxs.length c5), DetI (.int .i64 ((k151 : Int))), DetI (.pointer (some ⟨eb385, eo385 + k151 * 3, none⟩)), DetI (.pointer (some ⟨eb385, eo385 + k151 * 3 + 0, none⟩)), DetI (.string (bs ((p_1.Idxs.getD k151 d_Idx).Name))), DetI (.bool (!(((p_0.Idxs.getD k151 d_Idx).Name) == ((p_1.Idxs.getD k151 d_Idx).Name)))), DetI (.bool (!(((p_0.Idxs.getD k151 d_Idx).Name) == ((p_1.Idxs.getD k151 d_Idx).Name)))), DetI (undef), DetI (undef), DetI (undef), DetI (undef), DetI (undef), DetI (undef), DetI (undef), DetI (undef), DetI (undef), DetI (undef), DetI (undef), DetI (undef), DetI (undef), DetI (.bool (true))]) Try.follows rfl rfl rfl rfl rfl rfl (vgetI_stable ⟨StableI.det _, StableI.det _, StableI.det _, StableI.det _, StableI.det _, StableI.det _, StableI.det _, StableI.det _, StableI.det _, StableI.det _, StableI.det _, StableI.det _, StableI.det _, StableI.det _, StableI.det _, StableI.det _, StableI.det _, StableI.det _, StableI.det _, StableI.det _, StableI.det _, StableI.det _, StableI.det _, StableI.det _, StableI.det _, StableI.det _, StableI.det _, StableI.det _, trivial⟩) ⟨?_, ?_, ?_, ?_, ?_, ?_, ?_, ?_, ?_, ?_, ?_, ?_, ?_, ?_, ?_, ?_, ?_, ?_, ?_, ?_, ?_, ?_, ?_, ?_, ?_, ?_, ?_, ?_, trivial⟩ ?_
         ·exact fun _ _ h => os rfl ((yl_fieldAddr Try.fd59_2 rfl (h.old 2 _ rfl rfl) kI))
         ·exact fun _ _ h => os rfl ((yl_load1 Try.ty57 rfl (h.dt 0 54 rfl rfl rfl) (((Box.ex hf165 h.ex).cell 2).trans rfl) kI))
         ·exact fun _ _ h => os rfl ((yl_move rfl (h.old 6 _ rfl rfl) kI))
         ·intro L402 w403 hi404
          have hE405 := hi404.ex
          have hE405z := Ex.size hE405
          exact os rfl ((yl_indexAddrN Try.un57 Try.ty177 rfl (hi404.dt 1 55 rfl rfl rfl) (hi404.dt 2 56 rfl rfl rfl) eA384 (by first | omega | assumption | (simp only [IntKind.wrap_i64] at *; omega)) kI))
         ·exact fun _ _ h => os rfl ((yl_fieldAddr Try.fd177_0 rfl (h.dt 3 57 rfl rfl rfl) kI))
         ·exact fun _ _ h => os rfl ((yl_load1 Try.ty9 rfl (h.dt 4 58 rfl rfl rfl) ((Cells.ex eC384 h.ex) 0 _ rfl) kI))
         ·exact fun _ _ h => os rfl ((yl_fieldAddr Try.fd59_2 rfl (h.old 3 _ rfl rfl) kI))
         ·exact fun _ _ h => os rfl ((yl_load1 Try.ty57 rfl (h.dt 6 60 rfl rfl rfl) (((Box.ex hf168 h.ex).cell 2).trans rfl) kI))
         ·exact fun _ _ h => os rfl ((yl_move rfl (h.old 6 _ rfl rfl) kI))
         ·intro L435 w436 hi437
          have hE438 := hi437.ex
          have hE438z := Ex.size hE438
          exact os rfl ((yl_indexAddrN Try.un57 Try.ty177 rfl (hi437.dt 7 61 rfl rfl rfl) (hi437.dt 8 62 rfl rfl rfl) eA385 (by first | omega | assumption | (simp only [IntKind.wrap_i64] at *; omega)) kI))
         ·exact fun _ _ h => os rfl ((yl_fieldAddr Try.fd177_0 rfl (h.dt 9 63 rfl rfl rfl) kI))
         ·exact fun _ _ h => os rfl ((yl_load1 Try.ty9 rfl (h.dt 10 64 rfl rfl rfl) ((Cells.ex eC385 h.ex) 0 _ rfl) kI))
         ·exact fun _ _ h => os rfl ((yl_sneq (a := ((p_0.Idxs.getD k151 d_Idx).Name)) (b := ((p_1.Idxs.getD k151 d_Idx).Name)) rfl (h.dt 5 59 rfl rfl rfl) (h.dt 11 65 rfl rfl rfl) kI))
         ·exact fun _ _ h => os rfl ((yl_move rfl (h.dt 12 66 rfl rfl rfl) kI))
         ·exact fun _ _ h => OpR.skip rfl rfl (h.dt 13 67 rfl rfl rfl) (not_f hb176) ⟨rfl, Ex.refl _⟩
         ·exact fun _ _ h => OpR.skip rfl rfl (h.dt 13 67 rfl rfl rfl) (not_f hb176) ⟨rfl, Ex.refl _⟩
         ·exact fun _ _ h => OpR.skip rfl rfl (h.dt 13 67 rfl rfl rfl) (not_f hb176) ⟨rfl, Ex.refl _⟩
         ·exact fun _ _ h => OpR.skip rfl rfl (h.dt 13 67 rfl rfl rfl) (not_f hb176) ⟨rfl, Ex.refl _⟩
         ·exact fun _ _ h => OpR.skip rfl rfl (h.dt 13 67 rfl rfl rfl) (not_f hb176) ⟨rfl, Ex.refl _⟩
         ·exact fun _ _ h => OpR.skip rfl rfl (h.dt 13 67 rfl rfl rfl) (not_f hb176) ⟨rfl, Ex.refl _⟩
         ·exact fun _ _ h => OpR.skip rfl rfl (h.dt 13 67 rfl rfl rfl) (not_f hb176) ⟨rfl, Ex.refl _⟩
         ·exact fun _ _ h => OpR.skip rfl rfl (h.dt 13 67 rfl rfl rfl) (not_f hb176) ⟨rfl, Ex.refl _⟩
         ·exact fun _ _ h => OpR.skip rfl rfl (h.dt 13 67 rfl rfl rfl) (not_f hb176) ⟨rfl, Ex.refl _⟩
         ·exact fun _ _ h => OpR.skip rfl rfl (h.dt 13 67 rfl rfl rfl) (not_f hb176) ⟨rfl, Ex.refl _⟩
         ·exact fun _ _ h => OpR.skip rfl rfl (h.dt 13 67 rfl rfl rfl) (not_f hb176) ⟨rfl, Ex.refl _⟩
         ·exact fun _ _ h => OpR.skip rfl rfl (h.dt 13 67 rfl rfl rfl) (not_f hb176) ⟨rfl, Ex.refl _⟩
         ·exact fun _ _ h => OpR.skip rfl rfl (h.dt 13 67 rfl rfl rfl) (not_f hb176) ⟨rfl, Ex.refl _⟩
         ·exact fun _ _ h => os rfl ((yl_pick_t rfl (h.dt 13 67 rfl rfl rfl) (not_f hb176) rfl kI))
         ·intro fl537 fh538 L534 w535 hp536
          have hE539 := hp536.ex
          have hE539z := Ex.size hE539
          refine SeqR.done (tn (CW.sub (Sub.cons (d := 2) (hp536.old 2 _ rfl rfl) (Sub.cons (d := 3) (hp536.old 3 _ rfl rfl) (Sub.cons (d := 50) (hp536.old 50 _ rfl rfl) (Sub.cons (d := 51) (hp536.old 51 _ rfl rfl) (Sub.cons (d := 68) (hp536.nt 14 68 rfl rfl rfl) (Sub.cons (d := 69) (hp536.nt 15 69 rfl rfl rfl) (Sub.cons (d := 70) (hp536.nt 16 70 rfl rfl rfl) (Sub.cons (d := 71) (hp536.nt 17 71 rfl rfl rfl) (Sub.cons (d := 72) (hp536.nt 18 72 rfl rfl rfl) (Sub.cons (d := 73) (hp536.nt 19 73 rfl rfl rfl) (Sub.cons (d := 74) (hp536.nt 20 74 rfl rfl rfl) (Sub.cons (d := 75) (hp536.nt 21 75 rfl rfl rfl) (Sub.cons (d := 76) (hp536.nt 22 76 rfl rfl rfl) (Sub.cons (d := 77) (hp536.nt 23 77 rfl rfl rfl) (Sub.cons (d := 78) (hp536.nt 24 78 rfl rfl rfl) (Sub.cons (d := 79) (hp536.nt 25 79 rfl rfl rfl) (Sub.cons (d := 80) (hp536.nt 26 80 rfl rfl rfl) (Sub.cons (d := 81) (hp536.nt 27 81 rfl rfl rfl) (Sub.nil _))))))))))))))))))) (CW.cond_t rfl rfl (CW.seq (CW.region (sd rfl (yl_assign rfl rfl (SeqR.done (tn ?_)))))))))
          refine CW.ret (br (tr (tr ?_)))
          have hB559 : B_s_l24SameCols_1 p_0 p_1 k151 () = .ret false := by simp only [B_s_l24SameCols_1, hb26, hb27, hb28, hb176, hL150, cond_true, cond_false, loopE_done, loopE_ret]
          have hL558 : loopM (B_s_l24SameCols_1 p_0 p_1) (p_0.Idxs.length - 0) 0 () = .ret false := hI159.symm.trans (loopM.ret hlt173 hB559)
          refine br (tr (rr rfl (.cons rfl .nil) ?_))
          have hM560 : (s_l24SameCols p_0 p_1) = (false) := by simp only [s_l24SameCols, hb26, hb27, hb28, hb176, hL150, hL558, cond_true, cond_false, loopE_done, loopE_ret]
          rw [hM560]
          exact ⟨rfl, (Ex.trans hf171 hE539)⟩
       ·refine CW.seq (CW.region (sd rfl (yl_lss rfl rfl rfl (SeqR.done (tn (CW.seq (CW.cond_f rfl (lt_f hlt173) (CW.exit (tx ?_)))))))))
        refine tx ?_
        have hL562 : loopM (B_s_l24SameCols_1 p_0 p_1) (p_0.Idxs.length - 0) 0 () = .done () := hI159.symm.trans (loopM.stop hlt173)
        refine bx (tn (CW.seq (CW.region (sd rfl (yl_assign rfl rfl (SeqR.done (tn (CW.ret (rr rfl (.cons rfl .nil) ?_)))))))))
        have hM563 : (s_l24SameCols p_0 p_1) = (true) := by simp only [s_l24SameCols, hb26, hb27, hb28, hL150, hL562, cond_true, cond_false, loopE_done, loopE_ret]
        rw [hM563]
        exact ⟨rfl, hf171⟩
   ·have hb28p := dec_f hb28
    refine CW.cond_t rfl (not_f hb28) (CW.seq (CW.region (sd rfl (yl_assign rfl rfl (SeqR.done (tn (CW.ret (tr (rr rfl (.cons rfl .nil) ?_)))))))))
    have hM564 : (s_l24SameCols p_0 p_1) = (false) := by simp only [s_l24SameCols, hb26, hb27, hb28, cond_true, cond_false, loopE_done, loopE_ret]
    rw [hM564]
    exact ⟨rfl, (Ex.trans (Ex.trans (Ex.refl w) hE18) hE24)⟩
  ·have hb27p := dec_f hb27
   refine sz rfl rfl (not_f hb27) (sz rfl rfl (not_f hb27) (sz rfl rfl (not_f hb27) (sz rfl rfl (not_f hb27) (sz rfl rfl (not_f hb27) (sz rfl rfl (not_f hb27) (sz rfl rfl (not_f hb27) (sd rfl (yl_pick_t rfl rfl (not_f hb27) rfl (SeqR.done ?_)))))))))
   refine tn (CW.cond_t rfl rfl (CW.seq (CW.region (sd rfl (yl_assign rfl rfl (SeqR.done (tn (CW.ret (tr ?_)))))))))
   refine rr rfl (.cons rfl .nil) ?_
   have hM567 : (s_l24SameCols p_0 p_1) = (false) := by simp only [s_l24SameCols, hb26, hb27, cond_true, cond_false, loopE_done, loopE_ret]
   rw [hM567]
   exact ⟨rfl, (Ex.trans (Ex.trans (Ex.refl w) hE18) hE24)⟩
 ·refine sz rfl rfl (not_f hb26) (sz rfl rfl (not_f hb26) (sz rfl rfl (not_f hb26) (sz rfl rfl (not_f hb26) (sz rfl rfl (not_f hb26) (sz rfl rfl (not_f hb26) (sz rfl rfl (not_f hb26) (sd rfl (yl_pick_t rfl rfl (not_f hb26) rfl (sd rfl (yl_move rfl rfl ?_))))))))))
  refine sz rfl rfl rfl (sz rfl rfl rfl (sz rfl rfl rfl (sz rfl rfl rfl (sz rfl rfl rfl (sz rfl rfl rfl (sz rfl rfl rfl (sd rfl (yl_pick_t rfl rfl rfl rfl (SeqR.done ?_)))))))))
  refine tn (CW.cond_t rfl rfl (CW.seq (CW.region (sd rfl (yl_assign rfl rfl (SeqR.done (tn (CW.ret (tr ?_)))))))))
  refine rr rfl (.cons rfl .nil) ?_
  have hM570 : (s_l24SameCols p_0 p_1) = (false) := by simp only [s_l24SameCols, hb26, cond_true, cond_false, loopE_done, loopE_ret]
  rw [hM570]
  exact ⟨rfl, (Ex.trans (Ex.trans (Ex.refl w) hE18) hE24)⟩
set_option maxRecDepth 100000 in
set_option maxHeartbeats 2000000 in
theorem c_s_l1Most {w : World} (p_a : Int) (p_b : Int) : Cal Try.prog 221 #[.int .i64 (p_a), .int .i64 (p_b)] w fun v w' => v = .int .i64 ((s_l1Most p_a p_b)) ∧ Ex w w' := by
 refine Cal.of (vs := [.int .i64 (p_a), .int .i64 (p_b)]) Try.func221 rfl Try.ntmps221 rfl (CW.seq (CW.region (sd rfl (yl_assign rfl rfl (SeqR.done (tn (CW.seq (CW.seq (CW.region ?_)))))))))
 refine sd rfl (yl_move rfl rfl (sd rfl (yl_move rfl rfl (sd rfl (yl_gtr rfl rfl rfl (SeqR.done (tn (bcase (decide (p_b < p_a)) (fun hb1 => ?_) (fun hb1 => ?_)))))))))
 ·have hb1p := dec_t hb1
  refine CW.cond_t rfl hb1 (CW.seq (CW.region (sd rfl (yl_move rfl rfl (sd rfl (yl_assign rfl rfl (SeqR.done (tn (CW.ret (tr ?_))))))))))
  refine rr rfl (.cons rfl .nil) ?_
  have hM2 : (s_l1Most p_a p_b) = (p_a) := by simp only [s_l1Most, hb1, cond_true, cond_false, loopE_done, loopE_ret]
  rw [hM2]
  exact ⟨rfl, (Ex.refl w)⟩
 ·have hb1p := dec_f hb1
  refine CW.cond_f rfl hb1 (CW.skip (tn (CW.seq (CW.region (sd rfl (yl_move rfl rfl (sd rfl (yl_assign rfl rfl (SeqR.done (tn ?_))))))))))
  refine CW.ret (rr rfl (.cons rfl .nil) ?_)
  have hM3 : (s_l1Most p_a p_b) = (p_b) := by simp only [s_l1Most, hb1, cond_true, cond_false, loopE_done, loopE_ret]
  rw [hM3]
  exact ⟨rfl, (Ex.refl w)⟩
set_option maxRecDepth 100000 in
set_option maxHeartbeats 2000000 in
theorem c_s_l24Far {A1 : Option Addr} {c1 : Nat} {A2 : Option Addr} {c2 : Nat} {A4 : Option Addr} {c4 : Nat} {A5 : Option Addr} {c5 : Nat} {w : World} (p_a : DTable) (p_b : DTable) (h1 : RdS w (Iv 0 w.heap.size) (RF e_Str) 1 A1 p_a.Cols.length c1 p_a.Cols) (h2 : RdS w (Iv 0 w.heap.size) (RF e_Idx) 3 A2 p_a.Idxs.length c2 p_a.Idxs) (h4 : RdS w (Iv 0 w.heap.size) (RF e_Str) 1 A4 p_b.Cols.length c4 p_b.Cols) (h5 : RdS w (Iv 0 w.heap.size) (RF e_Idx) 3 A5 p_b.Idxs.length c5 p_b.Idxs) (o3 : ok_Table p_a) (o6 : ok_Table p_b) (pre0 : p_a.Idxs.length = p_b.Idxs.length) : Cal Try.prog 194 #[.agg #[.string (bs (p_a.Name)), .slice A1 p_a.Cols.length c1, .slice A2 p_a.Idxs.length c2], .agg #[.string (bs (p_b.Name)), .slice A4 p_b.Cols.length c4, .slice A5 p_b.Idxs.length c5]] w fun v w' => v = .int .i64 ((s_l24Far p_a p_b)) ∧ Ex w w' := by
 have hol7 : p_a.Name.length ≤ 1073741824 := o3.1
 have hol8 := o3.2.1.1
 have hol9 := o3.2.2.1
 have hol10 : p_b.Name.length ≤ 1073741824 := o6.1
 have hol11 := o6.2.1.1
 have hol12 := o6.2.2.1
 refine Cal.of (vs := [.agg #[.string (bs (p_a.Name)), .slice A1 p_a.Cols.length c1, .slice A2 p_a.Idxs.length c2], .agg #[.string (bs (p_b.Name)), .slice A4 p_b.Cols.length c4, .slice A5 p_b.Idxs.length c5]]) Try.func194 rfl Try.ntmps194 rfl (CW.seq (CW.region (sd rfl (yl_box (cs := [.string (bs (p_a.Name)), .slice A1 p_a.Cols.length c1, .slice A2 p_a.Idxs.length c2]) rfl rfl rfl ?_))))
 intro b13 w14 hs15 hz16 hB17 hE18
 refine sd rfl (yl_box (cs := [.string (bs (p_b.Name)), .slice A4 p_b.Cols.length c4, .slice A5 p_b.Idxs.length c5]) rfl rfl rfl ?_)
 intro b19 w20 hs21 hz22 hB23 hE24
 refine sd rfl (yl_assign rfl rfl (SeqR.done (tn (CW.seq (CW.region (sd rfl (yl_assign rfl rfl (SeqR.done (tn (CW.seq ?_))))))))))
 refine CW.seq (CW.region (sd rfl (yl_fieldAddr Try.fd59_2 rfl rfl ?_)))
 have q25 := Box.ex hB17 hE24
 refine sd rfl (yl_load1 Try.ty57 rfl rfl ((q25.cell 2).trans rfl) (sd rfl (yl_len Try.un57 rfl rfl (sd rfl (yl_move rfl rfl (SeqR.done (tn (CW.block (CW.loop (fun m28 L29 w30 => ∃ (k26 : Nat) (x27 : Int), m28 = p_a.Idxs.length - k26 ∧ k26 ≤ p_a.Idxs.length ∧ w20.heap.size ≤ w30.heap.size ∧ lkp L29 2 = some (.pointer (some ⟨b13, 0, none⟩)) ∧ lkp L29 3 = some (.pointer (some ⟨b19, 0, none⟩)) ∧ lkp L29 5 = some (.int .i64 (x27)) ∧ lkp L29 10 = some (.int .i64 ((p_a.Idxs.length : Int))) ∧ lkp L29 11 = some (.int .i64 ((k26 : Int))) ∧ Box w30 b13 59 [.string (bs (p_a.Name)), .slice A1 p_a.Cols.length c1, .slice A2 p_a.Idxs.length c2] ∧ RdS w30 (Iv 0 w.heap.size) (RF e_Str) 1 A1 p_a.Cols.length c1 p_a.Cols ∧ RdS w30 (Iv 0 w.heap.size) (RF e_Idx) 3 A2 p_a.Idxs.length c2 p_a.Idxs ∧ Box w30 b19 59 [.string (bs (p_b.Name)), .slice A4 p_b.Cols.length c4, .slice A5 p_b.Idxs.length c5] ∧ RdS w30 (Iv 0 w.heap.size) (RF e_Str) 1 A4 p_b.Cols.length c4 p_b.Cols ∧ RdS w30 (Iv 0 w.heap.size) (RF e_Idx) 3 A5 p_b.Idxs.length c5 p_b.Idxs ∧ Ex w w30 ∧ loopM (B_s_l24Far_0 p_a p_b) (p_a.Idxs.length - k26) k26 (x27) = loopM (B_s_l24Far_0 p_a p_b) (p_a.Idxs.length - 0) 0 (0)) (p_a.Idxs.length - 0) ?_ ?_)))))))))
 ·exact ⟨0, 0, rfl, (by omega), Nat.le_refl _, rfl, rfl, rfl, rfl, rfl, q25, (RdS.ex good_Str (RdS.ex good_Str h1 hE18) hE24), (RdS.ex good_Idx (RdS.ex good_Idx h2 hE18) hE24), hB23, (RdS.ex good_Str (RdS.ex good_Str h4 hE18) hE24), (RdS.ex good_Idx (RdS.ex good_Idx h5 hE18) hE24), (Ex.trans (Ex.trans (Ex.refl w) hE18) hE24), rfl⟩
 ·rintro m41 L42 w43 ⟨k26, x27, rfl, hk44, hsz46, hl47, hl48, hl49, hl50, hl51, hf52, hf53, hf54, hf55, hf56, hf57, hf58, hI45⟩
  refine CW.sub (Sub.cons hl47 (Sub.cons hl48 (Sub.cons hl49 (Sub.cons hl50 (Sub.cons hl51 (Sub.nil _)))))) ?_
  have hf52z := Box.lt hf52
  have hf55z := Box.lt hf55
  have hf58z := Ex.size hf58
  have hbg59 := RdS.big hf54
  rcases Nat.lt_or_ge k26 p_a.Idxs.length with hlt60 | hlt60
  ·refine CW.seq (CW.region (sd rfl (yl_lss rfl rfl rfl (SeqR.done (tn (CW.seq (CW.cond_t rfl (lt_t hlt60) (CW.skip (tn ?_)))))))))
   refine CW.seq (CW.block (CW.seq (CW.region (sd rfl (yl_move rfl rfl (sd rfl (yl_assign rfl rfl (SeqR.done (tn (CW.seq ?_))))))))))
   obtain ⟨eb61, eo61, ec61, eA61, eS61, ebl61, el61, eR61, eC61⟩ := RdS.atD hf54 d_Idx (i := k26) (by first | omega | assumption)
   obtain rfl := eR61
   have eC61 : Cells w43 eb61 (eo61 + k26 * 3) [.string (bs ((p_a.Idxs.getD k26 d_Idx).Name)), .int .i64 ((p_a.Idxs.getD k26 d_Idx).Col), .int .i64 ((p_a.Idxs.getD k26 d_Idx).Stage)] := eC61
   obtain ⟨eb62, eo62, ec62, eA62, eS62, ebl62, el62, eR62, eC62⟩ := RdS.atD hf57 d_Idx (i := k26) (by first | omega | assumption)
   obtain rfl := eR62
   have eC62 : Cells w43 eb62 (eo62 + k26 * 3) [.string (bs ((p_b.Idxs.getD k26 d_Idx).Name)), .int .i64 ((p_b.Idxs.getD k26 d_Idx).Col), .int .i64 ((p_b.Idxs.getD k26 d_Idx).Stage)] := eC62
   refine CW.drawsI 14 (vgetI [DetI (.pointer (some ⟨b13, 0 + 2, none⟩)), DetI (.slice A2 p_a.Idxs.length c2), DetI (.int .i64 ((k26 : Int))), DetI (.pointer (some ⟨eb61, eo61 + k26 * 3, none⟩)), DetI (.pointer (some ⟨eb61, eo61 + k26 * 3 + 2, none⟩)), DetI (.int .i64 ((p_a.Idxs.getD k26 d_Idx).Stage)), DetI (.pointer (some ⟨b19, 0 + 2, none⟩)), DetI (.slice A5 p_b.Idxs.length c5), DetI (.int .i64 ((k26 : Int))), DetI (.pointer (some ⟨eb62, eo62 + k26 * 3, none⟩)), DetI (.pointer (some ⟨eb62, eo62 + k26 * 3 + 2, none⟩)), DetI (.int .i64 ((p_b.Idxs.getD k26 d_Idx).Stage)), DetI (.int .i64 (IntKind.wrap .i64 (((p_a.Idxs.getD k26 d_Idx).Stage) - ((p_b.Idxs.getD k26 d_Idx).Stage)))), DetI (.int .i64 (IntKind.wrap .i64 (((p_a.Idxs.getD k26 d_Idx).Stage) - ((p_b.Idxs.getD k26 d_Idx).Stage))))]) Try.follows rfl rfl rfl rfl rfl rfl (vgetI_stable ⟨StableI.det _, StableI.det _, StableI.det _, StableI.det _, StableI.det _, StableI.det _, StableI.det _, StableI.det _, StableI.det _, StableI.det _, StableI.det _, StableI.det _, StableI.det _, StableI.det _, trivial⟩) ⟨?_, ?_, ?_, ?_, ?_, ?_, ?_, ?_, ?_, ?_, ?_, ?_, ?_, ?_, trivial⟩ ?_
   ·exact fun _ _ h => os rfl ((yl_fieldAddr Try.fd59_2 rfl (h.old 2 _ rfl rfl) kI))
   ·exact fun _ _ h => os rfl ((yl_load1 Try.ty57 rfl (h.dt 0 14 rfl rfl rfl) (((Box.ex hf52 h.ex).cell 2).trans rfl) kI))
   ·exact fun _ _ h => os rfl ((yl_move rfl (h.old 6 _ rfl rfl) kI))
   ·intro L79 w80 hi81
    have hE82 := hi81.ex
    have hE82z := Ex.size hE82
    exact os rfl ((yl_indexAddrN Try.un57 Try.ty177 rfl (hi81.dt 1 15 rfl rfl rfl) (hi81.dt 2 16 rfl rfl rfl) eA61 (by first | omega | assumption | (simp only [IntKind.wrap_i64] at *; omega)) kI))
   ·exact fun _ _ h => os rfl ((yl_fieldAddr Try.fd177_2 rfl (h.dt 3 17 rfl rfl rfl) kI))
   ·exact fun _ _ h => os rfl ((yl_load1 Try.ty3 rfl (h.dt 4 18 rfl rfl rfl) ((Cells.ex eC61 h.ex) 2 _ rfl) kI))
   ·exact fun _ _ h => os rfl ((yl_fieldAddr Try.fd59_2 rfl (h.old 3 _ rfl rfl) kI))
   ·exact fun _ _ h => os rfl ((yl_load1 Try.ty57 rfl (h.dt 6 20 rfl rfl rfl) (((Box.ex hf55 h.ex).cell 2).trans rfl) kI))
   ·exact fun _ _ h => os rfl ((yl_move rfl (h.old 6 _ rfl rfl) kI))
   ·intro L112 w113 hi114
    have hE115 := hi114.ex
    have hE115z := Ex.size hE115
    exact os rfl ((yl_indexAddrN Try.un57 Try.ty177 rfl (hi114.dt 7 21 rfl rfl rfl) (hi114.dt 8 22 rfl rfl rfl) eA62 (by first | omega | assumption | (simp only [IntKind.wrap_i64] at *; omega)) kI))
   ·exact fun _ _ h => os rfl ((yl_fieldAddr Try.fd177_2 rfl (h.dt 9 23 rfl rfl rfl) kI))
   ·exact fun _ _ h => os rfl ((yl_load1 Try.ty3 rfl (h.dt 10 24 rfl rfl rfl) ((Cells.ex eC62 h.ex) 2 _ rfl) kI))
   ·exact fun _ _ h => os rfl ((yl_sub rfl (h.dt 5 19 rfl rfl rfl) (h.dt 11 25 rfl rfl rfl) kI))
   ·exact fun _ _ h => os rfl ((yl_assign rfl (h.dt 12 26 rfl rfl rfl) kI))
   ·intro fl143 fh144 L140 w141 hp142
    have hE145 := hp142.ex
    have hE145z := Ex.size hE145
    refine SeqR.done (tn (CW.sub (Sub.cons (d := 2) (hp142.old 2 _ rfl rfl) (Sub.cons (d := 3) (hp142.old 3 _ rfl rfl) (Sub.cons (d := 5) (hp142.old 5 _ rfl rfl) (Sub.cons (d := 7) (hp142.nt 13 7 rfl rfl rfl) (Sub.cons (d := 10) (hp142.old 10 _ rfl rfl) (Sub.cons (d := 11) (hp142.old 11 _ rfl rfl) (Sub.nil _))))))) (CW.region (sd rfl (yl_move rfl rfl (sd rfl (yl_move rfl rfl (sd rfl (yl_move rfl rfl (sd rfl (yl_neg rfl rfl (sd rfl (yl_call Try.en221 rfl (opvs_cons rfl (opvs_cons rfl opvs_nil)) (Cal.mono (c_s_l1Most (IntKind.wrap .i64 (((p_a.Idxs.getD k26 d_Idx).Stage) - ((p_b.Idxs.getD k26 d_Idx).Stage))) (IntKind.wrap .i64 (0 - (IntKind.wrap .i64 (((p_a.Idxs.getD k26 d_Idx).Stage) - ((p_b.Idxs.getD k26 d_Idx).Stage)))))) ?_))))))))))))))
    rintro v153 w152 ⟨rfl, hE154⟩
    have hE154z := Ex.size hE154
    refine sd rfl (yl_add rfl rfl rfl (sd rfl (yl_assign rfl rfl (SeqR.done (bn (tn (CW.region (sd rfl (yl_inc rfl rfl rfl (by omega) (sd rfl (yl_move rfl rfl (SeqR.done ?_))))))))))))
    refine tn ?_
    have hB155 : B_s_l24Far_0 p_a p_b k26 (x27) = .cont (IntKind.wrap .i64 (x27 + (s_l1Most (IntKind.wrap .i64 (((p_a.Idxs.getD k26 d_Idx).Stage) - ((p_b.Idxs.getD k26 d_Idx).Stage))) (IntKind.wrap .i64 (0 - (IntKind.wrap .i64 (((p_a.Idxs.getD k26 d_Idx).Stage) - ((p_b.Idxs.getD k26 d_Idx).Stage)))))))) := by simp only [B_s_l24Far_0, cond_true, cond_false, loopE_done, loopE_ret]
    exact ⟨p_a.Idxs.length - (k26 + 1), by omega, k26 + 1, IntKind.wrap .i64 (x27 + (s_l1Most (IntKind.wrap .i64 (((p_a.Idxs.getD k26 d_Idx).Stage) - ((p_b.Idxs.getD k26 d_Idx).Stage))) (IntKind.wrap .i64 (0 - (IntKind.wrap .i64 (((p_a.Idxs.getD k26 d_Idx).Stage) - ((p_b.Idxs.getD k26 d_Idx).Stage))))))), rfl, hlt60, (by omega), rfl, rfl, rfl, rfl, rfl, (Box.ex (Box.ex hf52 hE145) hE154), (RdS.ex good_Str (RdS.ex good_Str hf53 hE145) hE154), (RdS.ex good_Idx (RdS.ex good_Idx hf54 hE145) hE154), (Box.ex (Box.ex hf55 hE145) hE154), (RdS.ex good_Str (RdS.ex good_Str hf56 hE145) hE154), (RdS.ex good_Idx (RdS.ex good_Idx hf57 hE145) hE154), (Ex.trans (Ex.trans hf58 hE145) hE154), (loopM.cont hlt60 hB155).symm.trans hI45⟩
  ·refine CW.seq (CW.region (sd rfl (yl_lss rfl rfl rfl (SeqR.done (tn (CW.seq (CW.cond_f rfl (lt_f hlt60) (CW.exit (tx ?_)))))))))
   refine tx ?_
   have hL170 : loopM (B_s_l24Far_0 p_a p_b) (p_a.Idxs.length - 0) 0 (0) = .done (x27) := hI45.symm.trans (loopM.stop hlt60)
   refine bx (tn (CW.seq (CW.region (sd rfl (yl_move rfl rfl (sd rfl (yl_assign rfl rfl (SeqR.done (tn (CW.ret ?_))))))))))
   refine rr rfl (.cons rfl .nil) ?_
   have hM171 : (s_l24Far p_a p_b) = (x27) := by simp only [s_l24Far, hL170, cond_true, cond_false, loopE_done, loopE_ret]
   rw [hM171]
   exact ⟨rfl, hf58⟩
set_option maxRecDepth 100000 in
set_option maxHeartbeats 2000000 in
theorem c_s_l27Ways {A1 : Option Addr} {c1 : Nat} {A2 : Option Addr} {c2 : Nat} {A3 : Option Addr} {c3 : Nat} {w : World} (p_0 : DShift) (h1 : RdS w (Iv 0 w.heap.size) R_Table 3 A1 p_0.Ways.length c1 p_0.Ways) (h2 : RdS w (Iv 0 w.heap.size) (RF e_Int) 1 A2 p_0.At.length c2 p_0.At) (h3 : RdS w (Iv 0 w.heap.size) (RF e_Write) 3 A3 p_0.Store.length c3 p_0.Store) (o4 : ok_Shift p_0) : Cal Try.prog 143 #[.agg #[.string (bs (p_0.Name)), .slice A1 p_0.Ways.length c1, .slice A2 p_0.At.length c2, .slice A3 p_0.Store.length c3]] w fun v w' => v = .bool ((s_l27Ways p_0)) ∧ Ex w w' := by
 have hol5 : p_0.Name.length ≤ 1073741824 := o4.1
 have hol6 := o4.2.1.1
 have hol7 := o4.2.2.1.1
 have hol8 := o4.2.2.2.1
 refine Cal.of (vs := [.agg #[.string (bs (p_0.Name)), .slice A1 p_0.Ways.length c1, .slice A2 p_0.At.length c2, .slice A3 p_0.Store.length c3]]) Try.func143 rfl Try.ntmps143 rfl (CW.seq (CW.region (sd rfl (yl_box (cs := [.string (bs (p_0.Name)), .slice A1 p_0.Ways.length c1, .slice A2 p_0.At.length c2, .slice A3 p_0.Store.length c3]) rfl rfl rfl ?_))))
 intro b9 w10 hs11 hz12 hB13 hE14
 refine sd rfl (yl_assign rfl rfl (SeqR.done (tn (CW.seq (CW.seq (bcase (s_l1In (p_0.Ways.length : Int) 1 4) (fun hb16 => ?_) (fun hb16 => ?_)))))))
 ·have hb16p := f_l1In hb16
  obtain ⟨eb19, eo19, ec19, eA19, eS19, ebl19, el19, eR19, eC19⟩ := RdS.atD (RdS.ex good_Table h1 hE14) d_Table (i := 0) (by first | omega | assumption)
  obtain ⟨A20, c20, A21, c21, rfl, h20, h21⟩ := eR19
  have eC19 : Cells w10 eb19 (eo19 + 0 * 3) [.string (bs ((p_0.Ways.getD 0 d_Table).Name)), .slice A20 (((p_0.Ways.getD 0 d_Table).Cols).length) c20, .slice A21 (((p_0.Ways.getD 0 d_Table).Idxs).length) c21] := eC19
  refine bcase (s_GoodTable (p_0.Ways.getD 0 d_Table)) (fun hb23 => ?_) (fun hb23 => ?_)
  ·have hb23p := f_s_GoodTable hb23
   have q25 := RdS.ex good_Table h1 hE14
   obtain ⟨eb26, eo26, ec26, eA26, eS26, ebl26, el26, eR26, eC26⟩ := RdS.atD q25 d_Table (i := 0) (by first | omega | assumption)
   obtain ⟨A27, c27, A28, c28, rfl, h27, h28⟩ := eR26
   have eC26 : Cells w10 eb26 (eo26 + 0 * 3) [.string (bs ((p_0.Ways.getD 0 d_Table).Name)), .slice A27 (((p_0.Ways.getD 0 d_Table).Cols).length) c27, .slice A28 (((p_0.Ways.getD 0 d_Table).Idxs).length) c28] := eC26
   have hrf31 := rf_s_l24Idx (p_0.Ways.getD 0 d_Table) p_0.Name
   refine CW.drawsI 23 (vgetI [DetI (.pointer (some ⟨b9, 0 + 1, none⟩)), DetI (.slice A1 p_0.Ways.length c1), DetI (.int .i64 ((p_0.Ways.length : Int))), DetI (.bool ((s_l1In (p_0.Ways.length : Int) 1 4))), DetI (.bool (!(s_l1In (p_0.Ways.length : Int) 1 4))), DetI (.bool (!(s_l1In (p_0.Ways.length : Int) 1 4))), DetI (.pointer (some ⟨b9, 0 + 1, none⟩)), DetI (.slice A1 p_0.Ways.length c1), DetI (.pointer (some ⟨eb26, eo26 + 0 * 3, none⟩)), DetI (.agg #[.string (bs ((p_0.Ways.getD 0 d_Table).Name)), .slice A27 (((p_0.Ways.getD 0 d_Table).Cols).length) c27, .slice A28 (((p_0.Ways.getD 0 d_Table).Idxs).length) c28]), DetI (.bool ((s_GoodTable (p_0.Ways.getD 0 d_Table)))), DetI (.bool (!(s_GoodTable (p_0.Ways.getD 0 d_Table)))), DetI (.bool (!(s_GoodTable (p_0.Ways.getD 0 d_Table)))), DetI (.bool (!(s_GoodTable (p_0.Ways.getD 0 d_Table)))), DetI (.pointer (some ⟨b9, 0 + 1, none⟩)), DetI (.slice A1 p_0.Ways.length c1), DetI (.pointer (some ⟨eb26, eo26 + 0 * 3, none⟩)), DetI (.agg #[.string (bs ((p_0.Ways.getD 0 d_Table).Name)), .slice A27 (((p_0.Ways.getD 0 d_Table).Cols).length) c27, .slice A28 (((p_0.Ways.getD 0 d_Table).Idxs).length) c28]), DetI (.pointer (some ⟨b9, 0 + 0, none⟩)), DetI (.string (bs (p_0.Name))), DetI (.int .i64 ((s_l24Idx (p_0.Ways.getD 0 d_Table) p_0.Name))), DetI (.bool (decide ((s_l24Idx (p_0.Ways.getD 0 d_Table) p_0.Name) < 0))), DetI (.bool (decide ((s_l24Idx (p_0.Ways.getD 0 d_Table) p_0.Name) < 0)))]) Try.follows rfl rfl rfl rfl rfl rfl (vgetI_stable ⟨StableI.det _, StableI.det _, StableI.det _, StableI.det _, StableI.det _, StableI.det _, StableI.det _, StableI.det _, StableI.det _, StableI.det _, StableI.det _, StableI.det _, StableI.det _, StableI.det _, StableI.det _, StableI.det _, StableI.det _, StableI.det _, StableI.det _, StableI.det _, StableI.det _, StableI.det _, StableI.det _, trivial⟩) ⟨?_, ?_, ?_, ?_, ?_, ?_, ?_, ?_, ?_, ?_, ?_, ?_, ?_, ?_, ?_, ?_, ?_, ?_, ?_, ?_, ?_, ?_, ?_, trivial⟩ ?_
   ·exact fun _ _ h => os rfl ((yl_fieldAddr Try.fd91_1 rfl (h.old 1 _ rfl rfl) kI))
   ·exact fun _ _ h => os rfl ((yl_load1 Try.ty88 rfl (h.dt 0 6 rfl rfl rfl) (((Box.ex hB13 h.ex).cell 1).trans rfl) kI))
   ·exact fun _ _ h => os rfl ((yl_len Try.un88 rfl (h.dt 1 7 rfl rfl rfl) kI))
   ·intro L48 w49 hi50
    refine OpR.op' rfl (yl_call Try.en50 rfl (opvs_cons (hi50.dt 2 8 rfl rfl rfl) (opvs_cons rfl (opvs_cons rfl opvs_nil))) (Cal.mono (c_s_l1In (p_0.Ways.length : Int) 1 4) ?_))
    rintro v54 w53 ⟨rfl, hE55⟩
    exact ⟨rfl, hE55⟩
   ·exact fun _ _ h => os rfl ((yl_not rfl (h.dt 3 9 rfl rfl rfl) kI))
   ·exact fun _ _ h => os rfl ((yl_move rfl (h.dt 4 10 rfl rfl rfl) kI))
   ·exact fun _ _ h => OpR.want rfl rfl (h.dt 5 11 rfl rfl rfl) (not_t hb16) (Yl.sameI (yl_fieldAddr Try.fd91_1 rfl (h.old 1 _ rfl rfl) kI))
   ·exact fun _ _ h => OpR.want rfl rfl (h.dt 5 11 rfl rfl rfl) (not_t hb16) (Yl.sameI (yl_load1 Try.ty88 rfl (h.dt 6 12 rfl rfl rfl) (((Box.ex hB13 h.ex).cell 1).trans rfl) kI))
   ·intro L79 w80 hi81
    have hE82 := hi81.ex
    have hE82z := Ex.size hE82
    exact OpR.want rfl rfl (hi81.dt 5 11 rfl rfl rfl) (not_t hb16) (Yl.sameI (yl_indexAddrN Try.un88 Try.ty59 rfl (hi81.dt 7 13 rfl rfl rfl) rfl eA26 (by first | omega | assumption | (simp only [IntKind.wrap_i64] at *; omega)) kI))
   ·exact fun _ _ h => OpR.want rfl rfl (h.dt 5 11 rfl rfl rfl) (not_t hb16) (Yl.sameI (yl_loadN (cs := [.string (bs ((p_0.Ways.getD 0 d_Table).Name)), .slice A27 (((p_0.Ways.getD 0 d_Table).Cols).length) c27, .slice A28 (((p_0.Ways.getD 0 d_Table).Idxs).length) c28]) Try.ty59 rfl (h.dt 8 14 rfl rfl rfl) (Cells.ex eC26 h.ex) rfl kI))
   ·intro L92 w93 hi94
    have hE95 := hi94.ex
    refine OpR.want rfl rfl (hi94.dt 5 11 rfl rfl rfl) (not_t hb16) (yl_call Try.en131 rfl (opvs_cons (hi94.dt 9 15 rfl rfl rfl) opvs_nil) (Cal.mono (c_s_GoodTable (p_0.Ways.getD 0 d_Table) (RdS.up (RdS.ex good_Str h27 hE95) good_Str) (RdS.up (RdS.ex good_Idx h28 hE95) good_Idx) (okL.getD o4.2.1 ok_d_Table _)) ?_))
    rintro v101 w100 ⟨rfl, hE102⟩
    exact ⟨rfl, hE102⟩
   ·exact fun _ _ h => OpR.want rfl rfl (h.dt 5 11 rfl rfl rfl) (not_t hb16) (Yl.sameI (yl_not rfl (h.dt 10 16 rfl rfl rfl) kI))
   ·exact fun _ _ h => os rfl ((yl_pick_f rfl (h.dt 5 11 rfl rfl rfl) (not_t hb16) (h.dt 11 17 rfl rfl rfl) kI))
   ·exact fun _ _ h => os rfl ((yl_move rfl (h.dt 12 18 rfl rfl rfl) kI))
   ·exact fun _ _ h => OpR.want rfl rfl (h.dt 13 19 rfl rfl rfl) (not_t hb23) (Yl.sameI (yl_fieldAddr Try.fd91_1 rfl (h.old 1 _ rfl rfl) kI))
   ·exact fun _ _ h => OpR.want rfl rfl (h.dt 13 19 rfl rfl rfl) (not_t hb23) (Yl.sameI (yl_load1 Try.ty88 rfl (h.dt 14 20 rfl rfl rfl) (((Box.ex hB13 h.ex).cell 1).trans rfl) kI))
   ·intro L133 w134 hi135
    have hE136 := hi135.ex
    have hE136z := Ex.size hE136
    exact OpR.want rfl rfl (hi135.dt 13 19 rfl rfl rfl) (not_t hb23) (Yl.sameI (yl_indexAddrN Try.un88 Try.ty59 rfl (hi135.dt 15 21 rfl rfl rfl) rfl eA26 (by first | omega | assumption | (simp only [IntKind.wrap_i64] at *; omega)) kI))
   ·exact fun _ _ h => OpR.want rfl rfl (h.dt 13 19 rfl rfl rfl) (not_t hb23) (Yl.sameI (yl_loadN (cs := [.string (bs ((p_0.Ways.getD 0 d_Table).Name)), .slice A27 (((p_0.Ways.getD 0 d_Table).Cols).length) c27, .slice A28 (((p_0.Ways.getD 0 d_Table).Idxs).length) c28]) Try.ty59 rfl (h.dt 16 22 rfl rfl rfl) (Cells.ex eC26 h.ex) rfl kI))
   ·exact fun _ _ h => OpR.want rfl rfl (h.dt 13 19 rfl rfl rfl) (not_t hb23) (Yl.sameI (yl_fieldAddr Try.fd91_0 rfl (h.old 1 _ rfl rfl) kI))
   ·exact fun _ _ h => OpR.want rfl rfl (h.dt 13 19 rfl rfl rfl) (not_t hb23) (Yl.sameI (yl_load1 Try.ty9 rfl (h.dt 18 24 rfl rfl rfl) (((Box.ex hB13 h.ex).cell 0).trans rfl) kI))
   ·intro L159 w160 hi161
    have hE162 := hi161.ex
    refine OpR.want rfl rfl (hi161.dt 13 19 rfl rfl rfl) (not_t hb23) (yl_call Try.en159 rfl (opvs_cons (hi161.dt 17 23 rfl rfl rfl) (opvs_cons (hi161.dt 19 25 rfl rfl rfl) opvs_nil)) (Cal.mono (c_s_l24Idx (p_0.Ways.getD 0 d_Table) p_0.Name (RdS.up (RdS.ex good_Str h27 hE162) good_Str) (RdS.up (RdS.ex good_Idx h28 hE162) good_Idx) (okL.getD o4.2.1 ok_d_Table _) o4.1) ?_))
    rintro v169 w168 ⟨rfl, hE170⟩
    exact ⟨rfl, hE170⟩
   ·exact fun _ _ h => OpR.want rfl rfl (h.dt 13 19 rfl rfl rfl) (not_t hb23) (Yl.sameI (yl_lss rfl (h.dt 20 26 rfl rfl rfl) rfl kI))
   ·exact fun _ _ h => os rfl ((yl_pick_f rfl (h.dt 13 19 rfl rfl rfl) (not_t hb23) (h.dt 21 27 rfl rfl rfl) kI))
   ·intro fl186 fh187 L183 w184 hp185
    have hE188 := hp185.ex
    have hE188z := Ex.size hE188
    refine SeqR.done (tn (CW.sub (Sub.cons (d := 1) (hp185.old 1 _ rfl rfl) (Sub.cons (d := 28) (hp185.nt 22 28 rfl rfl rfl) (Sub.nil _))) (bcase (decide ((s_l24Idx (p_0.Ways.getD 0 d_Table) p_0.Name) < 0)) (fun hb191 => ?_) (fun hb191 => ?_))))
    ·have hb191p := dec_t hb191
     refine CW.cond_t rfl hb191 (CW.seq (CW.region (sd rfl (yl_assign rfl rfl (SeqR.done (tn (CW.ret (tr (rr rfl (.cons rfl .nil) ?_)))))))))
     have hM192 : (s_l27Ways p_0) = (false) := by simp only [s_l27Ways, hb16, hb23, hb191, cond_true, cond_false, loopE_done, loopE_ret]
     rw [hM192]
     exact ⟨rfl, (Ex.trans (Ex.trans (Ex.refl w) hE14) hE188)⟩
    ·have hb191p := dec_f hb191
     refine CW.cond_f rfl hb191 (CW.skip (tn (CW.seq (CW.region (sd rfl (yl_fieldAddr Try.fd91_1 rfl rfl ?_))))))
     have q195 := Box.ex hB13 hE188
     refine sd rfl (yl_load1 Try.ty88 rfl rfl ((q195.cell 1).trans rfl) (sd rfl (yl_fieldAddr Try.fd91_1 rfl rfl (sd rfl (yl_load1 Try.ty88 rfl rfl ((q195.cell 1).trans rfl) (sd rfl (yl_len Try.un88 rfl rfl (sd rfl (yl_sub rfl rfl rfl ?_)))))))))
     have q196 := RdS.ex good_Table q25 hE188
     obtain ⟨eb197, eo197, ec197, eA197, eS197, ebl197, el197, eR197, eC197⟩ := RdS.atD q196 d_Table (i := (IntKind.wrap .i64 ((p_0.Ways.length : Int) - 1)).toNat) (by first | omega | assumption | (simp only [IntKind.wrap_i64] at *; omega))
     obtain ⟨A198, c198, A199, c199, rfl, h198, h199⟩ := eR197
     have eC197 : Cells w184 eb197 (eo197 + ((IntKind.wrap .i64 ((p_0.Ways.length : Int) - 1)).toNat) * 3) [.string (bs ((p_0.Ways.getD ((IntKind.wrap .i64 ((p_0.Ways.length : Int) - 1)).toNat) d_Table).Name)), .slice A198 (((p_0.Ways.getD ((IntKind.wrap .i64 ((p_0.Ways.length : Int) - 1)).toNat) d_Table).Cols).length) c198, .slice A199 (((p_0.Ways.getD ((IntKind.wrap .i64 ((p_0.Ways.length : Int) - 1)).toNat) d_Table).Idxs).length) c199] := eC197
     refine sd rfl (yl_indexAddr Try.un88 Try.ty59 rfl rfl rfl eA197 (by first | omega | assumption | (simp only [IntKind.wrap_i64] at *; omega)) (by first | omega | assumption | (simp only [IntKind.wrap_i64] at *; omega)) (sd rfl (yl_loadN (cs := [.string (bs ((p_0.Ways.getD ((IntKind.wrap .i64 ((p_0.Ways.length : Int) - 1)).toNat) d_Table).Name)), .slice A198 (((p_0.Ways.getD ((IntKind.wrap .i64 ((p_0.Ways.length : Int) - 1)).toNat) d_Table).Cols).length) c198, .slice A199 (((p_0.Ways.getD ((IntKind.wrap .i64 ((p_0.Ways.length : Int) - 1)).toNat) d_Table).Idxs).length) c199]) Try.ty59 rfl rfl eC197 rfl (sd rfl (yl_alloc Try.ty59 (cs := [.string (bs (([] : Str))), .slice none 0 0, .slice none 0 0]) rfl rfl ?_)))))
     intro b200 w201 hs202 hz203 hB204 hE205
     refine SeqR.u rfl rfl (yl_store (vs := [.string (bs ((p_0.Ways.getD ((IntKind.wrap .i64 ((p_0.Ways.length : Int) - 1)).toNat) d_Table).Name)), .slice A198 (((p_0.Ways.getD ((IntKind.wrap .i64 ((p_0.Ways.length : Int) - 1)).toNat) d_Table).Cols).length) c198, .slice A199 (((p_0.Ways.getD ((IntKind.wrap .i64 ((p_0.Ways.length : Int) - 1)).toNat) d_Table).Idxs).length) c199]) Try.ty59 rfl rfl rfl rfl rfl rfl hB204 (Nat.le_of_ble_eq_true rfl) ?_)
     intro w206 hB207 hO208
     have hB207 : Box w206 b200 59 [.string (bs ((p_0.Ways.getD ((IntKind.wrap .i64 ((p_0.Ways.length : Int) - 1)).toNat) d_Table).Name)), .slice A198 (((p_0.Ways.getD ((IntKind.wrap .i64 ((p_0.Ways.length : Int) - 1)).toNat) d_Table).Cols).length) c198, .slice A199 (((p_0.Ways.getD ((IntKind.wrap .i64 ((p_0.Ways.length : Int) - 1)).toNat) d_Table).Idxs).length) c199] := hB207
     have hO208z := hO208.size
     refine SeqR.done (tn (CW.seq (CW.seq (CW.region (sd rfl (yl_loadN (cs := [.string (bs ((p_0.Ways.getD ((IntKind.wrap .i64 ((p_0.Ways.length : Int) - 1)).toNat) d_Table).Name)), .slice A198 (((p_0.Ways.getD ((IntKind.wrap .i64 ((p_0.Ways.length : Int) - 1)).toNat) d_Table).Cols).length) c198, .slice A199 (((p_0.Ways.getD ((IntKind.wrap .i64 ((p_0.Ways.length : Int) - 1)).toNat) d_Table).Idxs).length) c199]) Try.ty59 rfl rfl (hB207.cells (n := 3) rfl) rfl ?_))))))
     have q210 := RdS.only good_Str (RdS.ex good_Str h198 hE205) hO208 (by simp only [Iv]; omega)
     have q212 := RdS.only good_Idx (RdS.ex good_Idx h199 hE205) hO208 (by simp only [Iv]; omega)
     refine sd rfl (yl_call Try.en131 rfl (opvs_cons rfl opvs_nil) (Cal.mono (c_s_GoodTable (p_0.Ways.getD ((IntKind.wrap .i64 ((p_0.Ways.length : Int) - 1)).toNat) d_Table) (RdS.up q210 good_Str) (RdS.up q212 good_Idx) (okL.getD o4.2.1 ok_d_Table _)) ?_))
     rintro v214 w213 ⟨rfl, hE215⟩
     have hE215z := Ex.size hE215
     refine sd rfl (yl_not rfl rfl (sd rfl (yl_move rfl rfl (bcase (s_GoodTable (p_0.Ways.getD ((IntKind.wrap .i64 ((p_0.Ways.length : Int) - 1)).toNat) d_Table)) (fun hb216 => ?_) (fun hb216 => ?_)))))
     ·have hb216p := f_s_GoodTable hb216
      have q217 := Box.ex hB207 hE215
      refine sy rfl rfl (not_t hb216) (yl_loadN (cs := [.string (bs ((p_0.Ways.getD ((IntKind.wrap .i64 ((p_0.Ways.length : Int) - 1)).toNat) d_Table).Name)), .slice A198 (((p_0.Ways.getD ((IntKind.wrap .i64 ((p_0.Ways.length : Int) - 1)).toNat) d_Table).Cols).length) c198, .slice A199 (((p_0.Ways.getD ((IntKind.wrap .i64 ((p_0.Ways.length : Int) - 1)).toNat) d_Table).Idxs).length) c199]) Try.ty59 rfl rfl (q217.cells (n := 3) rfl) rfl (sy rfl rfl (not_t hb216) (yl_fieldAddr Try.fd91_0 rfl rfl ?_)))
      have q220 := Box.ex (Box.only (Box.ex q195 hE205) hO208 (by omega)) hE215
      refine sy rfl rfl (not_t hb216) (yl_load1 Try.ty9 rfl rfl ((q220.cell 0).trans rfl) ?_)
      have q221 := RdS.ex good_Str q210 hE215
      have q222 := RdS.ex good_Idx q212 hE215
      refine sy rfl rfl (not_t hb216) (yl_call Try.en159 rfl (opvs_cons rfl (opvs_cons rfl opvs_nil)) (Cal.mono (c_s_l24Idx (p_0.Ways.getD ((IntKind.wrap .i64 ((p_0.Ways.length : Int) - 1)).toNat) d_Table) p_0.Name (RdS.up q221 good_Str) (RdS.up q222 good_Idx) (okL.getD o4.2.1 ok_d_Table _) o4.1) ?_))
      rintro v224 w223 ⟨rfl, hE225⟩
      have hE225z := Ex.size hE225
      have hrf226 := rf_s_l24Idx (p_0.Ways.getD ((IntKind.wrap .i64 ((p_0.Ways.length : Int) - 1)).toNat) d_Table) p_0.Name
      refine sy rfl rfl (not_t hb216) (yl_lss rfl rfl rfl (sd rfl (yl_pick_f rfl rfl (not_t hb216) rfl (SeqR.done (tn (bcase (decide ((s_l24Idx (p_0.Ways.getD ((IntKind.wrap .i64 ((p_0.Ways.length : Int) - 1)).toNat) d_Table) p_0.Name) < 0)) (fun hb227 => ?_) (fun hb227 => ?_)))))))
      ·have hb227p := dec_t hb227
       refine CW.cond_t rfl hb227 (CW.seq (CW.region (sd rfl (yl_assign rfl rfl (SeqR.done (tn (CW.ret (tr (rr rfl (.cons rfl .nil) ?_)))))))))
       have hM228 : (s_l27Ways p_0) = (false) := by simp only [s_l27Ways, hb16, hb23, hb191, hb216, hb227, cond_true, cond_false, loopE_done, loopE_ret]
       rw [hM228]
       exact ⟨rfl, (Ex.trans (Ex.trans (Below.only (Ex.trans (Ex.trans (Ex.trans (Ex.refl w) hE14) hE188) hE205) hO208 (by omega)) hE215) hE225)⟩
      ·have hb227p := dec_f hb227
       refine CW.cond_f rfl hb227 (CW.skip (tn (CW.seq ?_)))
       have q235 := Box.ex q220 hE225
       have q241 := Box.ex q217 hE225
       have q243 := RdS.ex good_Idx q222 hE225
       obtain ⟨eb245, eo245, ec245, eA245, eS245, ebl245, el245, eR245, eC245⟩ := RdS.atD q243 d_Idx (i := ((s_l24Idx (p_0.Ways.getD ((IntKind.wrap .i64 ((p_0.Ways.length : Int) - 1)).toNat) d_Table) p_0.Name)).toNat) (by first | omega | assumption | (simp only [IntKind.wrap_i64] at *; omega))
       obtain rfl := eR245
       have eC245 : Cells w223 eb245 (eo245 + (((s_l24Idx (p_0.Ways.getD ((IntKind.wrap .i64 ((p_0.Ways.length : Int) - 1)).toNat) d_Table) p_0.Name)).toNat) * 3) [.string (bs ((((p_0.Ways.getD ((IntKind.wrap .i64 ((p_0.Ways.length : Int) - 1)).toNat) d_Table).Idxs).getD (((s_l24Idx (p_0.Ways.getD ((IntKind.wrap .i64 ((p_0.Ways.length : Int) - 1)).toNat) d_Table) p_0.Name)).toNat) d_Idx).Name)), .int .i64 ((((p_0.Ways.getD ((IntKind.wrap .i64 ((p_0.Ways.length : Int) - 1)).toNat) d_Table).Idxs).getD (((s_l24Idx (p_0.Ways.getD ((IntKind.wrap .i64 ((p_0.Ways.length : Int) - 1)).toNat) d_Table) p_0.Name)).toNat) d_Idx).Col), .int .i64 ((((p_0.Ways.getD ((IntKind.wrap .i64 ((p_0.Ways.length : Int) - 1)).toNat) d_Table).Idxs).getD (((s_l24Idx (p_0.Ways.getD ((IntKind.wrap .i64 ((p_0.Ways.length : Int) - 1)).toNat) d_Table) p_0.Name)).toNat) d_Idx).Stage)] := eC245
       have hrf260 := rf_s_l24Idx (p_0.Ways.getD ((IntKind.wrap .i64 ((p_0.Ways.length : Int) - 1)).toNat) d_Table) p_0.Name
       refine CW.drawsI 17 (vgetI [DetI (.pointer (some ⟨b9, 0 + 1, none⟩)), DetI (.slice A1 p_0.Ways.length c1), DetI (.pointer (some ⟨eb26, eo26 + 0 * 3, none⟩)), DetI (.agg #[.string (bs ((p_0.Ways.getD 0 d_Table).Name)), .slice A27 (((p_0.Ways.getD 0 d_Table).Cols).length) c27, .slice A28 (((p_0.Ways.getD 0 d_Table).Idxs).length) c28]), DetI (.pointer (some ⟨b9, 0 + 0, none⟩)), DetI (.string (bs (p_0.Name))), DetI (.pointer (some ⟨b200, 0 + 2, none⟩)), DetI (.slice A199 (((p_0.Ways.getD ((IntKind.wrap .i64 ((p_0.Ways.length : Int) - 1)).toNat) d_Table).Idxs).length) c199), DetI (.agg #[.string (bs ((p_0.Ways.getD ((IntKind.wrap .i64 ((p_0.Ways.length : Int) - 1)).toNat) d_Table).Name)), .slice A198 (((p_0.Ways.getD ((IntKind.wrap .i64 ((p_0.Ways.length : Int) - 1)).toNat) d_Table).Cols).length) c198, .slice A199 (((p_0.Ways.getD ((IntKind.wrap .i64 ((p_0.Ways.length : Int) - 1)).toNat) d_Table).Idxs).length) c199]), DetI (.pointer (some ⟨b9, 0 + 0, none⟩)), DetI (.string (bs (p_0.Name))), DetI (.int .i64 ((s_l24Idx (p_0.Ways.getD ((IntKind.wrap .i64 ((p_0.Ways.length : Int) - 1)).toNat) d_Table) p_0.Name))), DetI (.pointer (some ⟨eb245, eo245 + (((s_l24Idx (p_0.Ways.getD ((IntKind.wrap .i64 ((p_0.Ways.length : Int) - 1)).toNat) d_Table) p_0.Name)).toNat) * 3, none⟩)), DetI (.pointer (some ⟨eb245, eo245 + (((s_l24Idx (p_0.Ways.getD ((IntKind.wrap .i64 ((p_0.Ways.length : Int) - 1)).toNat) d_Table) p_0.Name)).toNat) * 3 + 2, none⟩)), DetI (.int .i64 ((((p_0.Ways.getD ((IntKind.wrap .i64 ((p_0.Ways.length : Int) - 1)).toNat) d_Table).Idxs).getD (((s_l24Idx (p_0.Ways.getD ((IntKind.wrap .i64 ((p_0.Ways.length : Int) - 1)).toNat) d_Table) p_0.Name)).toNat) d_Idx).Stage)), fun lo hi v wq => ∃ A257 c257 lo257 hi257, v = .slice A257 ((s_l24Way (p_0.Ways.getD 0 d_Table) p_0.Name ((((p_0.Ways.getD ((IntKind.wrap .i64 ((p_0.Ways.length : Int) - 1)).toNat) d_Table).Idxs).getD (((s_l24Idx (p_0.Ways.getD ((IntKind.wrap .i64 ((p_0.Ways.length : Int) - 1)).toNat) d_Table) p_0.Name)).toNat) d_Idx).Stage)).length) c257 ∧ OwnL wq lo257 hi257 59 3 R_Table A257 ((s_l24Way (p_0.Ways.getD 0 d_Table) p_0.Name ((((p_0.Ways.getD ((IntKind.wrap .i64 ((p_0.Ways.length : Int) - 1)).toNat) d_Table).Idxs).getD (((s_l24Idx (p_0.Ways.getD ((IntKind.wrap .i64 ((p_0.Ways.length : Int) - 1)).toNat) d_Table) p_0.Name)).toNat) d_Idx).Stage)).length) c257 (s_l24Way (p_0.Ways.getD 0 d_Table) p_0.Name ((((p_0.Ways.getD ((IntKind.wrap .i64 ((p_0.Ways.length : Int) - 1)).toNat) d_Table).Idxs).getD (((s_l24Idx (p_0.Ways.getD ((IntKind.wrap .i64 ((p_0.Ways.length : Int) - 1)).toNat) d_Table) p_0.Name)).toNat) d_Idx).Stage)) ∧ (okL ok_Table) (s_l24Way (p_0.Ways.getD 0 d_Table) p_0.Name ((((p_0.Ways.getD ((IntKind.wrap .i64 ((p_0.Ways.length : Int) - 1)).toNat) d_Table).Idxs).getD (((s_l24Idx (p_0.Ways.getD ((IntKind.wrap .i64 ((p_0.Ways.length : Int) - 1)).toNat) d_Table) p_0.Name)).toNat) d_Idx).Stage)) ∧ (lo ≤ lo257 ∧ lo257 ≤ hi257 ∧ hi257 ≤ hi), fun lo hi v wq => ∃ A257 c257, v = .slice A257 ((s_l24Way (p_0.Ways.getD 0 d_Table) p_0.Name ((((p_0.Ways.getD ((IntKind.wrap .i64 ((p_0.Ways.length : Int) - 1)).toNat) d_Table).Idxs).getD (((s_l24Idx (p_0.Ways.getD ((IntKind.wrap .i64 ((p_0.Ways.length : Int) - 1)).toNat) d_Table) p_0.Name)).toNat) d_Idx).Stage)).length) c257 ∧ RdS wq (Ge w223.heap.size) R_Table 3 A257 (s_l24Way (p_0.Ways.getD 0 d_Table) p_0.Name ((((p_0.Ways.getD ((IntKind.wrap .i64 ((p_0.Ways.length : Int) - 1)).toNat) d_Table).Idxs).getD (((s_l24Idx (p_0.Ways.getD ((IntKind.wrap .i64 ((p_0.Ways.length : Int) - 1)).toNat) d_Table) p_0.Name)).toNat) d_Idx).Stage)).length c257 (s_l24Way (p_0.Ways.getD 0 d_Table) p_0.Name ((((p_0.Ways.getD ((IntKind.wrap .i64 ((p_0.Ways.length : Int) - 1)).toNat) d_Table).Idxs).getD (((s_l24Idx (p_0.Ways.getD ((IntKind.wrap .i64 ((p_0.Ways.length : Int) - 1)).toNat) d_Table) p_0.Name)).toNat) d_Idx).Stage))]) Try.follows rfl rfl rfl rfl rfl rfl (vgetI_stable ⟨StableI.det _, StableI.det _, StableI.det _, StableI.det _, StableI.det _, StableI.det _, StableI.det _, StableI.det _, StableI.det _, StableI.det _, StableI.det _, StableI.det _, StableI.det _, StableI.det _, StableI.det _, (fun _ _ _ _ _ ⟨A257, c257, lo257, hi257, hv, h257, ho258, hr0⟩ e => ⟨A257, c257, lo257, hi257, hv, OwnL.ex good_Table h257 e, ho258, hr0⟩), (fun _ _ _ _ _ ⟨A257, c257, hv, h259⟩ e => ⟨A257, c257, hv, RdS.ex good_Table h259 e⟩), trivial⟩) ⟨?_, ?_, ?_, ?_, ?_, ?_, ?_, ?_, ?_, ?_, ?_, ?_, ?_, ?_, ?_, ?_, ?_, trivial⟩ ?_
       ·exact fun _ _ h => os rfl ((yl_fieldAddr Try.fd91_1 rfl (h.old 1 _ rfl rfl) kI))
       ·exact fun _ _ h => os rfl ((yl_load1 Try.ty88 rfl (h.dt 0 47 rfl rfl rfl) (((Box.ex q235 h.ex).cell 1).trans rfl) kI))
       ·intro L272 w273 hi274
        have hE275 := hi274.ex
        have hE275z := Ex.size hE275
        exact os rfl ((yl_indexAddrN Try.un88 Try.ty59 rfl (hi274.dt 1 48 rfl rfl rfl) rfl eA26 (by first | omega | assumption | (simp only [IntKind.wrap_i64] at *; omega)) kI))
       ·intro L277 w278 hi279
        have hE280 := hi279.ex
        have hE280z := Ex.size hE280
        exact os rfl ((yl_loadN (cs := [.string (bs ((p_0.Ways.getD 0 d_Table).Name)), .slice A27 (((p_0.Ways.getD 0 d_Table).Cols).length) c27, .slice A28 (((p_0.Ways.getD 0 d_Table).Idxs).length) c28]) Try.ty59 rfl (hi279.dt 2 49 rfl rfl rfl) (Cells.ex (Cells.ex (Cells.ex (Cells.only (Cells.ex (Cells.ex eC26 hE188) hE205) hO208 (by omega)) hE215) hE225) hE280) rfl kI))
       ·exact fun _ _ h => os rfl ((yl_fieldAddr Try.fd91_0 rfl (h.old 1 _ rfl rfl) kI))
       ·exact fun _ _ h => os rfl ((yl_load1 Try.ty9 rfl (h.dt 4 51 rfl rfl rfl) (((Box.ex q235 h.ex).cell 0).trans rfl) kI))
       ·exact fun _ _ h => os rfl ((yl_fieldAddr Try.fd59_2 rfl (h.old 3 _ rfl rfl) kI))
       ·exact fun _ _ h => os rfl ((yl_load1 Try.ty57 rfl (h.dt 6 53 rfl rfl rfl) (((Box.ex q241 h.ex).cell 2).trans rfl) kI))
       ·exact fun _ _ h => os rfl ((yl_loadN (cs := [.string (bs ((p_0.Ways.getD ((IntKind.wrap .i64 ((p_0.Ways.length : Int) - 1)).toNat) d_Table).Name)), .slice A198 (((p_0.Ways.getD ((IntKind.wrap .i64 ((p_0.Ways.length : Int) - 1)).toNat) d_Table).Cols).length) c198, .slice A199 (((p_0.Ways.getD ((IntKind.wrap .i64 ((p_0.Ways.length : Int) - 1)).toNat) d_Table).Idxs).length) c199]) Try.ty59 rfl (h.old 3 _ rfl rfl) ((Box.ex q241 h.ex).cells (n := 3) rfl) rfl kI))
       ·exact fun _ _ h => os rfl ((yl_fieldAddr Try.fd91_0 rfl (h.old 1 _ rfl rfl) kI))
       ·exact fun _ _ h => os rfl ((yl_load1 Try.ty9 rfl (h.dt 9 56 rfl rfl rfl) (((Box.ex q235 h.ex).cell 0).trans rfl) kI))
       ·intro L322 w323 hi324
        have hE325 := hi324.ex
        refine OpR.op' rfl (yl_call Try.en159 rfl (opvs_cons (hi324.dt 8 55 rfl rfl rfl) (opvs_cons (hi324.dt 10 57 rfl rfl rfl) opvs_nil)) (Cal.mono (c_s_l24Idx (p_0.Ways.getD ((IntKind.wrap .i64 ((p_0.Ways.length : Int) - 1)).toNat) d_Table) p_0.Name (RdS.up (RdS.ex good_Str (RdS.ex good_Str q221 hE225) hE325) good_Str) (RdS.up (RdS.ex good_Idx q243 hE325) good_Idx) (okL.getD o4.2.1 ok_d_Table _) o4.1) ?_))
        rintro v331 w330 ⟨rfl, hE332⟩
        exact ⟨rfl, hE332⟩
       ·intro L333 w334 hi335
        have hE336 := hi335.ex
        have hE336z := Ex.size hE336
        exact os rfl ((yl_indexAddr Try.un57 Try.ty177 rfl (hi335.dt 7 54 rfl rfl rfl) (hi335.dt 11 58 rfl rfl rfl) eA245 (by first | omega | assumption | (simp only [IntKind.wrap_i64] at *; omega)) (by first | omega | assumption | (simp only [IntKind.wrap_i64] at *; omega)) kI))
       ·exact fun _ _ h => os rfl ((yl_fieldAddr Try.fd177_2 rfl (h.dt 12 59 rfl rfl rfl) kI))
       ·exact fun _ _ h => os rfl ((yl_load1 Try.ty3 rfl (h.dt 13 60 rfl rfl rfl) ((Cells.ex eC245 h.ex) 2 _ rfl) kI))
       ·intro L350 w351 hi352
        have hE353 := hi352.ex
        have hE353z := Ex.size hE353
        refine OpR.op' rfl (yl_call Try.en102 rfl (opvs_cons (hi352.dt 3 50 rfl rfl rfl) (opvs_cons (hi352.dt 5 52 rfl rfl rfl) (opvs_cons (hi352.dt 14 61 rfl rfl rfl) opvs_nil))) (Cal.mono (c_s_l24Way (p_0.Ways.getD 0 d_Table) p_0.Name ((((p_0.Ways.getD ((IntKind.wrap .i64 ((p_0.Ways.length : Int) - 1)).toNat) d_Table).Idxs).getD (((s_l24Idx (p_0.Ways.getD ((IntKind.wrap .i64 ((p_0.Ways.length : Int) - 1)).toNat) d_Table) p_0.Name)).toNat) d_Idx).Stage) (RdS.up (RdS.ex good_Str (RdS.ex good_Str (RdS.ex good_Str (RdS.only good_Str (RdS.ex good_Str (RdS.ex good_Str h27 hE188) hE205) hO208 (by simp only [Iv]; omega)) hE215) hE225) hE353) good_Str) (RdS.up (RdS.ex good_Idx (RdS.ex good_Idx (RdS.ex good_Idx (RdS.only good_Idx (RdS.ex good_Idx (RdS.ex good_Idx h28 hE188) hE205) hO208 (by simp only [Iv]; omega)) hE215) hE225) hE353) good_Idx) (okL.getD o4.2.1 ok_d_Table _) o4.1 (by first | omega | assumption | (simp only [IntKind.wrap_i64] at *; omega)) (stage_rng hb23 (by omega)) (stage_rng hb216 (by omega))) ?_))
        rintro v362 w359 ⟨A360, c360, lo360, hi360, rfl, h360, ho361, hrn364, hE363⟩
        exact ⟨⟨A360, c360, lo360, hi360, rfl, h360, ho361, hrn364⟩, hE363⟩
       ·intro L365 w366 hi367
        have hE368 := hi367.ex
        have hE368z := Ex.size hE368
        obtain ⟨lo370, hh371, _, hx369, hr372, hr373, hr374, A257_375, c257_376, lo257_377, hi257_378, rfl, h379, h380, hrn381⟩ := hi367.dep 15 62 rfl rfl
        exact os rfl ((yl_assign rfl hx369 ⟨fun _ _ => ⟨A257_375, c257_376, rfl, (RdS.ivG good_Table (OwnL.rd good_Table h379) (by omega))⟩, rfl⟩))
       ·intro fl385 fh386 L382 w383 hp384
        have hE387 := hp384.ex
        have hE387z := Ex.size hE387
        have hr390 := hp384.rng 15 rfl
        obtain ⟨_, hx389, A257_391, c257_392, lo257_393, hi257_394, rfl, h395, h396, hrn397⟩ := hp384.new 15 62 rfl rfl
        obtain ⟨_, hx398, A257_399, c257_400, rfl, h401⟩ := hp384.new 16 4 rfl rfl
        refine SeqR.done (tn (CW.sub (Sub.cons (d := 1) (hp384.old 1 _ rfl rfl) (Sub.cons (d := 4) hx398 (Sub.nil _))) (CW.seq (CW.seq (CW.region (sd rfl (yl_move rfl rfl (sd rfl (yl_len Try.un88 rfl rfl (sd rfl (yl_fieldAddr Try.fd91_1 rfl rfl ?_)))))))))))
        have q402 := Box.ex q235 hE387
        refine sd rfl (yl_load1 Try.ty88 rfl rfl ((q402.cell 1).trans rfl) (sd rfl (yl_len Try.un88 rfl rfl (sd rfl (yl_neq rfl rfl rfl (SeqR.done (tn (bcase (decide (((s_l24Way (p_0.Ways.getD 0 d_Table) p_0.Name ((((p_0.Ways.getD ((IntKind.wrap .i64 ((p_0.Ways.length : Int) - 1)).toNat) d_Table).Idxs).getD (((s_l24Idx (p_0.Ways.getD ((IntKind.wrap .i64 ((p_0.Ways.length : Int) - 1)).toNat) d_Table) p_0.Name)).toNat) d_Idx).Stage)).length : Int) = (p_0.Ways.length : Int))) (fun hb403 => ?_) (fun hb403 => ?_)))))))))
        ·have hb403p := dec_t hb403
         refine CW.cond_f rfl (not_t hb403) (CW.skip (tn (CW.seq (CW.seq (CW.region (sd rfl (yl_move rfl rfl (sd rfl (yl_len Try.un88 rfl rfl (sd rfl (yl_move rfl rfl ?_)))))))))))
         refine SeqR.done (tn (CW.block (CW.loop (fun m405 L406 w407 => ∃ (k404 : Nat), m405 = (s_l24Way (p_0.Ways.getD 0 d_Table) p_0.Name ((((p_0.Ways.getD ((IntKind.wrap .i64 ((p_0.Ways.length : Int) - 1)).toNat) d_Table).Idxs).getD (((s_l24Idx (p_0.Ways.getD ((IntKind.wrap .i64 ((p_0.Ways.length : Int) - 1)).toNat) d_Table) p_0.Name)).toNat) d_Idx).Stage)).length - k404 ∧ k404 ≤ (s_l24Way (p_0.Ways.getD 0 d_Table) p_0.Name ((((p_0.Ways.getD ((IntKind.wrap .i64 ((p_0.Ways.length : Int) - 1)).toNat) d_Table).Idxs).getD (((s_l24Idx (p_0.Ways.getD ((IntKind.wrap .i64 ((p_0.Ways.length : Int) - 1)).toNat) d_Table) p_0.Name)).toNat) d_Idx).Stage)).length ∧ w383.heap.size ≤ w407.heap.size ∧ lkp L406 1 = some (.pointer (some ⟨b9, 0, none⟩)) ∧ lkp L406 4 = some (.slice A257_399 ((s_l24Way (p_0.Ways.getD 0 d_Table) p_0.Name ((((p_0.Ways.getD ((IntKind.wrap .i64 ((p_0.Ways.length : Int) - 1)).toNat) d_Table).Idxs).getD (((s_l24Idx (p_0.Ways.getD ((IntKind.wrap .i64 ((p_0.Ways.length : Int) - 1)).toNat) d_Table) p_0.Name)).toNat) d_Idx).Stage)).length) c257_400) ∧ lkp L406 70 = some (.int .i64 (((s_l24Way (p_0.Ways.getD 0 d_Table) p_0.Name ((((p_0.Ways.getD ((IntKind.wrap .i64 ((p_0.Ways.length : Int) - 1)).toNat) d_Table).Idxs).getD (((s_l24Idx (p_0.Ways.getD ((IntKind.wrap .i64 ((p_0.Ways.length : Int) - 1)).toNat) d_Table) p_0.Name)).toNat) d_Idx).Stage)).length : Int))) ∧ lkp L406 71 = some (.int .i64 ((k404 : Int))) ∧ Box w407 b9 91 [.string (bs (p_0.Name)), .slice A1 p_0.Ways.length c1, .slice A2 p_0.At.length c2, .slice A3 p_0.Store.length c3] ∧ RdS w407 (Iv 0 w.heap.size) R_Table 3 A1 p_0.Ways.length c1 p_0.Ways ∧ RdS w407 (Iv 0 w.heap.size) (RF e_Int) 1 A2 p_0.At.length c2 p_0.At ∧ RdS w407 (Iv 0 w.heap.size) (RF e_Write) 3 A3 p_0.Store.length c3 p_0.Store ∧ RdS w407 (Ge w223.heap.size) R_Table 3 A257_399 (s_l24Way (p_0.Ways.getD 0 d_Table) p_0.Name ((((p_0.Ways.getD ((IntKind.wrap .i64 ((p_0.Ways.length : Int) - 1)).toNat) d_Table).Idxs).getD (((s_l24Idx (p_0.Ways.getD ((IntKind.wrap .i64 ((p_0.Ways.length : Int) - 1)).toNat) d_Table) p_0.Name)).toNat) d_Idx).Stage)).length c257_400 (s_l24Way (p_0.Ways.getD 0 d_Table) p_0.Name ((((p_0.Ways.getD ((IntKind.wrap .i64 ((p_0.Ways.length : Int) - 1)).toNat) d_Table).Idxs).getD (((s_l24Idx (p_0.Ways.getD ((IntKind.wrap .i64 ((p_0.Ways.length : Int) - 1)).toNat) d_Table) p_0.Name)).toNat) d_Idx).Stage)) ∧ Ex w w407 ∧ loopM (B_s_l27Ways_0 p_0) ((s_l24Way (p_0.Ways.getD 0 d_Table) p_0.Name ((((p_0.Ways.getD ((IntKind.wrap .i64 ((p_0.Ways.length : Int) - 1)).toNat) d_Table).Idxs).getD (((s_l24Idx (p_0.Ways.getD ((IntKind.wrap .i64 ((p_0.Ways.length : Int) - 1)).toNat) d_Table) p_0.Name)).toNat) d_Idx).Stage)).length - k404) k404 () = loopM (B_s_l27Ways_0 p_0) ((s_l24Way (p_0.Ways.getD 0 d_Table) p_0.Name ((((p_0.Ways.getD ((IntKind.wrap .i64 ((p_0.Ways.length : Int) - 1)).toNat) d_Table).Idxs).getD (((s_l24Idx (p_0.Ways.getD ((IntKind.wrap .i64 ((p_0.Ways.length : Int) - 1)).toNat) d_Table) p_0.Name)).toNat) d_Idx).Stage)).length - 0) 0 ()) ((s_l24Way (p_0.Ways.getD 0 d_Table) p_0.Name ((((p_0.Ways.getD ((IntKind.wrap .i64 ((p_0.Ways.length : Int) - 1)).toNat) d_Table).Idxs).getD (((s_l24Idx (p_0.Ways.getD ((IntKind.wrap .i64 ((p_0.Ways.length : Int) - 1)).toNat) d_Table) p_0.Name)).toNat) d_Idx).Stage)).length - 0) ?_ ?_)))
         ·exact ⟨0, rfl, (by omega), Nat.le_refl _, rfl, rfl, rfl, rfl, q402, (RdS.ex good_Table (RdS.ex good_Table (RdS.ex good_Table (RdS.only good_Table (RdS.ex good_Table q196 hE205) hO208 (by simp only [Iv]; omega)) hE215) hE225) hE387), (RdS.ex good_Int (RdS.ex good_Int (RdS.ex good_Int (RdS.only good_Int (RdS.ex good_Int (RdS.ex good_Int (RdS.ex good_Int h2 hE14) hE188) hE205) hO208 (by simp only [Iv]; omega)) hE215) hE225) hE387), (RdS.ex good_Write (RdS.ex good_Write (RdS.ex good_Write (RdS.only good_Write (RdS.ex good_Write (RdS.ex good_Write (RdS.ex good_Write h3 hE14) hE188) hE205) hO208 (by simp only [Iv]; omega)) hE215) hE225) hE387), h401, (Ex.trans (Ex.trans (Ex.trans (Below.only (Ex.trans (Ex.trans (Ex.trans (Ex.refl w) hE14) hE188) hE205) hO208 (by omega)) hE215) hE225) hE387), rfl⟩
         ·rintro m434 L435 w436 ⟨k404, rfl, hk437, hsz439, hl440, hl441, hl442, hl443, hf444, hf445, hf446, hf447, hf448, hf449, hI438⟩
          refine CW.sub (Sub.cons hl440 (Sub.cons hl441 (Sub.cons hl442 (Sub.cons hl443 (Sub.nil _))))) ?_
          have hf444z := Box.lt hf444
          have hf449z := Ex.size hf449
          have hbg450 := RdS.big hf448
          rcases Nat.lt_or_ge k404 ((s_l24Way (p_0.Ways.getD 0 d_Table) p_0.Name ((((p_0.Ways.getD ((IntKind.wrap .i64 ((p_0.Ways.length : Int) - 1)).toNat) d_Table).Idxs).getD (((s_l24Idx (p_0.Ways.getD ((IntKind.wrap .i64 ((p_0.Ways.length : Int) - 1)).toNat) d_Table) p_0.Name)).toNat) d_Idx).Stage)).length) with hlt451 | hlt451
          ·refine CW.seq (CW.region (sd rfl (yl_lss rfl rfl rfl (SeqR.done (tn (CW.seq (CW.cond_t rfl (lt_t hlt451) (CW.skip (tn ?_)))))))))
           refine CW.seq (CW.block (CW.seq (CW.region (sd rfl (yl_move rfl rfl (sd rfl (yl_assign rfl rfl (SeqR.done (tn (CW.seq ?_))))))))))
           obtain ⟨eb452, eo452, ec452, eA452, eS452, ebl452, el452, eR452, eC452⟩ := RdS.atD hf445 d_Table (i := k404) (by first | omega | assumption)
           obtain ⟨A453, c453, A454, c454, rfl, h453, h454⟩ := eR452
           have eC452 : Cells w436 eb452 (eo452 + k404 * 3) [.string (bs ((p_0.Ways.getD k404 d_Table).Name)), .slice A453 (((p_0.Ways.getD k404 d_Table).Cols).length) c453, .slice A454 (((p_0.Ways.getD k404 d_Table).Idxs).length) c454] := eC452
           refine bcase (s_GoodTable (p_0.Ways.getD k404 d_Table)) (fun hb456 => ?_) (fun hb456 => ?_)
           ·have hb456p := f_s_GoodTable hb456
            obtain ⟨eb457, eo457, ec457, eA457, eS457, ebl457, el457, eR457, eC457⟩ := RdS.atD hf445 d_Table (i := k404) (by first | omega | assumption)
            obtain ⟨A458, c458, A459, c459, rfl, h458, h459⟩ := eR457
            have eC457 : Cells w436 eb457 (eo457 + k404 * 3) [.string (bs ((p_0.Ways.getD k404 d_Table).Name)), .slice A458 (((p_0.Ways.getD k404 d_Table).Cols).length) c458, .slice A459 (((p_0.Ways.getD k404 d_Table).Idxs).length) c459] := eC457
            obtain ⟨eb461, eo461, ec461, eA461, eS461, ebl461, el461, eR461, eC461⟩ := RdS.atD hf448 d_Table (i := k404) (by first | omega | assumption)
            obtain ⟨A462, c462, A463, c463, rfl, h462, h463⟩ := eR461
            have eC461 : Cells w436 eb461 (eo461 + k404 * 3) [.string (bs (((s_l24Way (p_0.Ways.getD 0 d_Table) p_0.Name ((((p_0.Ways.getD ((IntKind.wrap .i64 ((p_0.Ways.length : Int) - 1)).toNat) d_Table).Idxs).getD (((s_l24Idx (p_0.Ways.getD ((IntKind.wrap .i64 ((p_0.Ways.length : Int) - 1)).toNat) d_Table) p_0.Name)).toNat) d_Idx).Stage)).getD k404 d_Table).Name)), .slice A462 ((((s_l24Way (p_0.Ways.getD 0 d_Table) p_0.Name ((((p_0.Ways.getD ((IntKind.wrap .i64 ((p_0.Ways.length : Int) - 1)).toNat) d_Table).Idxs).getD (((s_l24Idx (p_0.Ways.getD ((IntKind.wrap .i64 ((p_0.Ways.length : Int) - 1)).toNat) d_Table) p_0.Name)).toNat) d_Idx).Stage)).getD k404 d_Table).Cols).length) c462, .slice A463 ((((s_l24Way (p_0.Ways.getD 0 d_Table) p_0.Name ((((p_0.Ways.getD ((IntKind.wrap .i64 ((p_0.Ways.length : Int) - 1)).toNat) d_Table).Idxs).getD (((s_l24Idx (p_0.Ways.getD ((IntKind.wrap .i64 ((p_0.Ways.length : Int) - 1)).toNat) d_Table) p_0.Name)).toNat) d_Idx).Stage)).getD k404 d_Table).Idxs).length) c463] := eC461
            refine bcase (s_l24SameCols ((s_l24Way (p_0.Ways.getD 0 d_Table) p_0.Name ((((p_0.Ways.getD ((IntKind.wrap .i64 ((p_0.Ways.length : Int) - 1)).toNat) d_Table).Idxs).getD (((s_l24Idx (p_0.Ways.getD ((IntKind.wrap .i64 ((p_0.Ways.length : Int) - 1)).toNat) d_Table) p_0.Name)).toNat) d_Idx).Stage)).getD k404 d_Table) (p_0.Ways.getD k404 d_Table)) (fun hb465 => ?_) (fun hb465 => ?_)
            ·have hb465p := f_s_l24SameCols hb465
             obtain ⟨eb466, eo466, ec466, eA466, eS466, ebl466, el466, eR466, eC466⟩ := RdS.atD hf445 d_Table (i := k404) (by first | omega | assumption)
             obtain ⟨A467, c467, A468, c468, rfl, h467, h468⟩ := eR466
             have eC466 : Cells w436 eb466 (eo466 + k404 * 3) [.string (bs ((p_0.Ways.getD k404 d_Table).Name)), .slice A467 (((p_0.Ways.getD k404 d_Table).Cols).length) c467, .slice A468 (((p_0.Ways.getD k404 d_Table).Idxs).length) c468] := eC466
             obtain ⟨eb470, eo470, ec470, eA470, eS470, ebl470, el470, eR470, eC470⟩ := RdS.atD hf448 d_Table (i := k404) (by first | omega | assumption)
             obtain ⟨A471, c471, A472, c472, rfl, h471, h472⟩ := eR470
             have eC470 : Cells w436 eb470 (eo470 + k404 * 3) [.string (bs (((s_l24Way (p_0.Ways.getD 0 d_Table) p_0.Name ((((p_0.Ways.getD ((IntKind.wrap .i64 ((p_0.Ways.length : Int) - 1)).toNat) d_Table).Idxs).getD (((s_l24Idx (p_0.Ways.getD ((IntKind.wrap .i64 ((p_0.Ways.length : Int) - 1)).toNat) d_Table) p_0.Name)).toNat) d_Idx).Stage)).getD k404 d_Table).Name)), .slice A471 ((((s_l24Way (p_0.Ways.getD 0 d_Table) p_0.Name ((((p_0.Ways.getD ((IntKind.wrap .i64 ((p_0.Ways.length : Int) - 1)).toNat) d_Table).Idxs).getD (((s_l24Idx (p_0.Ways.getD ((IntKind.wrap .i64 ((p_0.Ways.length : Int) - 1)).toNat) d_Table) p_0.Name)).toNat) d_Idx).Stage)).getD k404 d_Table).Cols).length) c471, .slice A472 ((((s_l24Way (p_0.Ways.getD 0 d_Table) p_0.Name ((((p_0.Ways.getD ((IntKind.wrap .i64 ((p_0.Ways.length : Int) - 1)).toNat) d_Table).Idxs).getD (((s_l24Idx (p_0.Ways.getD ((IntKind.wrap .i64 ((p_0.Ways.length : Int) - 1)).toNat) d_Table) p_0.Name)).toNat) d_Idx).Stage)).getD k404 d_Table).Idxs).length) c472] := eC470
             refine CW.drawsI 33 (vgetI [DetI (.pointer (some ⟨b9, 0 + 1, none⟩)), DetI (.slice A1 p_0.Ways.length c1), DetI (.int .i64 ((k404 : Int))), DetI (.pointer (some ⟨eb466, eo466 + k404 * 3, none⟩)), DetI (.agg #[.string (bs ((p_0.Ways.getD k404 d_Table).Name)), .slice A467 (((p_0.Ways.getD k404 d_Table).Cols).length) c467, .slice A468 (((p_0.Ways.getD k404 d_Table).Idxs).length) c468]), DetI (.bool ((s_GoodTable (p_0.Ways.getD k404 d_Table)))), DetI (.bool (!(s_GoodTable (p_0.Ways.getD k404 d_Table)))), DetI (.bool (!(s_GoodTable (p_0.Ways.getD k404 d_Table)))), DetI (.slice A257_399 ((s_l24Way (p_0.Ways.getD 0 d_Table) p_0.Name ((((p_0.Ways.getD ((IntKind.wrap .i64 ((p_0.Ways.length : Int) - 1)).toNat) d_Table).Idxs).getD (((s_l24Idx (p_0.Ways.getD ((IntKind.wrap .i64 ((p_0.Ways.length : Int) - 1)).toNat) d_Table) p_0.Name)).toNat) d_Idx).Stage)).length) c257_400), DetI (.int .i64 ((k404 : Int))), DetI (.pointer (some ⟨eb470, eo470 + k404 * 3, none⟩)), DetI (.agg #[.string (bs (((s_l24Way (p_0.Ways.getD 0 d_Table) p_0.Name ((((p_0.Ways.getD ((IntKind.wrap .i64 ((p_0.Ways.length : Int) - 1)).toNat) d_Table).Idxs).getD (((s_l24Idx (p_0.Ways.getD ((IntKind.wrap .i64 ((p_0.Ways.length : Int) - 1)).toNat) d_Table) p_0.Name)).toNat) d_Idx).Stage)).getD k404 d_Table).Name)), .slice A471 ((((s_l24Way (p_0.Ways.getD 0 d_Table) p_0.Name ((((p_0.Ways.getD ((IntKind.wrap .i64 ((p_0.Ways.length : Int) - 1)).toNat) d_Table).Idxs).getD (((s_l24Idx (p_0.Ways.getD ((IntKind.wrap .i64 ((p_0.Ways.length : Int) - 1)).toNat) d_Table) p_0.Name)).toNat) d_Idx).Stage)).getD k404 d_Table).Cols).length) c471, .slice A472 ((((s_l24Way (p_0.Ways.getD 0 d_Table) p_0.Name ((((p_0.Ways.getD ((IntKind.wrap .i64 ((p_0.Ways.length : Int) - 1)).toNat) d_Table).Idxs).getD (((s_l24Idx (p_0.Ways.getD ((IntKind.wrap .i64 ((p_0.Ways.length : Int) - 1)).toNat) d_Table) p_0.Name)).toNat) d_Idx).Stage)).getD k404 d_Table).Idxs).length) c472]), DetI (.pointer (some ⟨b9, 0 + 1, none⟩)), DetI (.slice A1 p_0.Ways.length c1), DetI (.int .i64 ((k404 : Int))), DetI (.pointer (some ⟨eb466, eo466 + k404 * 3, none⟩)), DetI (.agg #[.string (bs ((p_0.Ways.getD k404 d_Table).Name)), .slice A467 (((p_0.Ways.getD k404 d_Table).Cols).length) c467, .slice A468 (((p_0.Ways.getD k404 d_Table).Idxs).length) c468]), DetI (.bool ((s_l24SameCols ((s_l24Way (p_0.Ways.getD 0 d_Table) p_0.Name ((((p_0.Ways.getD ((IntKind.wrap .i64 ((p_0.Ways.length : Int) - 1)).toNat) d_Table).Idxs).getD (((s_l24Idx (p_0.Ways.getD ((IntKind.wrap .i64 ((p_0.Ways.length : Int) - 1)).toNat) d_Table) p_0.Name)).toNat) d_Idx).Stage)).getD k404 d_Table) (p_0.Ways.getD k404 d_Table)))), DetI (.bool (!(s_l24SameCols ((s_l24Way (p_0.Ways.getD 0 d_Table) p_0.Name ((((p_0.Ways.getD ((IntKind.wrap .i64 ((p_0.Ways.length : Int) - 1)).toNat) d_Table).Idxs).getD (((s_l24Idx (p_0.Ways.getD ((IntKind.wrap .i64 ((p_0.Ways.length : Int) - 1)).toNat) d_Table) p_0.Name)).toNat) d_Idx).Stage)).getD k404 d_Table) (p_0.Ways.getD k404 d_Table)))), DetI (.bool (!(s_l24SameCols ((s_l24Way (p_0.Ways.getD 0 d_Table) p_0.Name ((((p_0.Ways.getD ((IntKind.wrap .i64 ((p_0.Ways.length : Int) - 1)).toNat) d_Table).Idxs).getD (((s_l24Idx (p_0.Ways.getD ((IntKind.wrap .i64 ((p_0.Ways.length : Int) - 1)).toNat) d_Table) p_0.Name)).toNat) d_Idx).Stage)).getD k404 d_Table) (p_0.Ways.getD k404 d_Table)))), DetI (.bool (!(s_l24SameCols ((s_l24Way (p_0.Ways.getD 0 d_Table) p_0.Name ((((p_0.Ways.getD ((IntKind.wrap .i64 ((p_0.Ways.length : Int) - 1)).toNat) d_Table).Idxs).getD (((s_l24Idx (p_0.Ways.getD ((IntKind.wrap .i64 ((p_0.Ways.length : Int) - 1)).toNat) d_Table) p_0.Name)).toNat) d_Idx).Stage)).getD k404 d_Table) (p_0.Ways.getD k404 d_Table)))), DetI (.slice A257_399 ((s_l24Way (p_0.Ways.getD 0 d_Table) p_0.Name ((((p_0.Ways.getD ((IntKind.wrap .i64 ((p_0.Ways.length : Int) - 1)).toNat) d_Table).Idxs).getD (((s_l24Idx (p_0.Ways.getD ((IntKind.wrap .i64 ((p_0.Ways.length : Int) - 1)).toNat) d_Table) p_0.Name)).toNat) d_Idx).Stage)).length) c257_400), DetI (.int .i64 ((k404 : Int))), DetI (.pointer (some ⟨eb470, eo470 + k404 * 3, none⟩)), DetI (.agg #[.string (bs (((s_l24Way (p_0.Ways.getD 0 d_Table) p_0.Name ((((p_0.Ways.getD ((IntKind.wrap .i64 ((p_0.Ways.length : Int) - 1)).toNat) d_Table).Idxs).getD (((s_l24Idx (p_0.Ways.getD ((IntKind.wrap .i64 ((p_0.Ways.length : Int) - 1)).toNat) d_Table) p_0.Name)).toNat) d_Idx).Stage)).getD k404 d_Table).Name)), .slice A471 ((((s_l24Way (p_0.Ways.getD 0 d_Table) p_0.Name ((((p_0.Ways.getD ((IntKind.wrap .i64 ((p_0.Ways.length : Int) - 1)).toNat) d_Table).Idxs).getD (((s_l24Idx (p_0.Ways.getD ((IntKind.wrap .i64 ((p_0.Ways.length : Int) - 1)).toNat) d_Table) p_0.Name)).toNat) d_Idx).Stage)).getD k404 d_Table).Cols).length) c471, .slice A472 ((((s_l24Way (p_0.Ways.getD 0 d_Table) p_0.Name ((((p_0.Ways.getD ((IntKind.wrap .i64 ((p_0.Ways.length : Int) - 1)).toNat) d_Table).Idxs).getD (((s_l24Idx (p_0.Ways.getD ((IntKind.wrap .i64 ((p_0.Ways.length : Int) - 1)).toNat) d_Table) p_0.Name)).toNat) d_Idx).Stage)).getD k404 d_Table).Idxs).length) c472]), DetI (.pointer (some ⟨b9, 0 + 1, none⟩)), DetI (.slice A1 p_0.Ways.length c1), DetI (.int .i64 ((k404 : Int))), DetI (.pointer (some ⟨eb466, eo466 + k404 * 3, none⟩)), DetI (.agg #[.string (bs ((p_0.Ways.getD k404 d_Table).Name)), .slice A467 (((p_0.Ways.getD k404 d_Table).Cols).length) c467, .slice A468 (((p_0.Ways.getD k404 d_Table).Idxs).length) c468]), DetI (.int .i64 ((s_l24Far ((s_l24Way (p_0.Ways.getD 0 d_Table) p_0.Name ((((p_0.Ways.getD ((IntKind.wrap .i64 ((p_0.Ways.length : Int) - 1)).toNat) d_Table).Idxs).getD (((s_l24Idx (p_0.Ways.getD ((IntKind.wrap .i64 ((p_0.Ways.length : Int) - 1)).toNat) d_Table) p_0.Name)).toNat) d_Idx).Stage)).getD k404 d_Table) (p_0.Ways.getD k404 d_Table)))), DetI (.bool (!(decide ((s_l24Far ((s_l24Way (p_0.Ways.getD 0 d_Table) p_0.Name ((((p_0.Ways.getD ((IntKind.wrap .i64 ((p_0.Ways.length : Int) - 1)).toNat) d_Table).Idxs).getD (((s_l24Idx (p_0.Ways.getD ((IntKind.wrap .i64 ((p_0.Ways.length : Int) - 1)).toNat) d_Table) p_0.Name)).toNat) d_Idx).Stage)).getD k404 d_Table) (p_0.Ways.getD k404 d_Table)) = 0)))), DetI (.bool (!(decide ((s_l24Far ((s_l24Way (p_0.Ways.getD 0 d_Table) p_0.Name ((((p_0.Ways.getD ((IntKind.wrap .i64 ((p_0.Ways.length : Int) - 1)).toNat) d_Table).Idxs).getD (((s_l24Idx (p_0.Ways.getD ((IntKind.wrap .i64 ((p_0.Ways.length : Int) - 1)).toNat) d_Table) p_0.Name)).toNat) d_Idx).Stage)).getD k404 d_Table) (p_0.Ways.getD k404 d_Table)) = 0))))]) Try.follows rfl rfl rfl rfl rfl rfl (vgetI_stable ⟨StableI.det _, StableI.det _, StableI.det _, StableI.det _, StableI.det _, StableI.det _, StableI.det _, StableI.det _, StableI.det _, StableI.det _, StableI.det _, StableI.det _, StableI.det _, StableI.det _, StableI.det _, StableI.det _, StableI.det _, StableI.det _, StableI.det _, StableI.det _, StableI.det _, StableI.det _, StableI.det _, StableI.det _, StableI.det _, StableI.det _, StableI.det _, StableI.det _, StableI.det _, StableI.det _, StableI.det _, StableI.det _, StableI.det _, trivial⟩) ⟨?_, ?_, ?_, ?_, ?_, ?_, ?_, ?_, ?_, ?_, ?_, ?_, ?_, ?_, ?_, ?_, ?_, ?_, ?_, ?_, ?_, ?_, ?_, ?_, ?_, ?_, ?_, ?_, ?_, ?_, ?_, ?_, ?_, trivial⟩ ?_
             ·exact fun _ _ h => os rfl ((yl_fieldAddr Try.fd91_1 rfl (h.old 1 _ rfl rfl) kI))
             ·exact fun _ _ h => os rfl ((yl_load1 Try.ty88 rfl (h.dt 0 74 rfl rfl rfl) (((Box.ex hf444 h.ex).cell 1).trans rfl) kI))
             ·exact fun _ _ h => os rfl ((yl_move rfl (h.old 5 _ rfl rfl) kI))
             ·intro L491 w492 hi493
              have hE494 := hi493.ex
              have hE494z := Ex.size hE494
              exact os rfl ((yl_indexAddrN Try.un88 Try.ty59 rfl (hi493.dt 1 75 rfl rfl rfl) (hi493.dt 2 76 rfl rfl rfl) eA466 (by first | omega | assumption | (simp only [IntKind.wrap_i64] at *; omega)) kI))
             ·exact fun _ _ h => os rfl ((yl_loadN (cs := [.string (bs ((p_0.Ways.getD k404 d_Table).Name)), .slice A467 (((p_0.Ways.getD k404 d_Table).Cols).length) c467, .slice A468 (((p_0.Ways.getD k404 d_Table).Idxs).length) c468]) Try.ty59 rfl (h.dt 3 77 rfl rfl rfl) (Cells.ex eC466 h.ex) rfl kI))
             ·intro L503 w504 hi505
              have hE506 := hi505.ex
              refine OpR.op' rfl (yl_call Try.en131 rfl (opvs_cons (hi505.dt 4 78 rfl rfl rfl) opvs_nil) (Cal.mono (c_s_GoodTable (p_0.Ways.getD k404 d_Table) (RdS.up (RdS.ex good_Str h467 hE506) good_Str) (RdS.up (RdS.ex good_Idx h468 hE506) good_Idx) (okL.getD o4.2.1 ok_d_Table _)) ?_))
              rintro v511 w510 ⟨rfl, hE512⟩
              exact ⟨rfl, hE512⟩
             ·exact fun _ _ h => os rfl ((yl_not rfl (h.dt 5 79 rfl rfl rfl) kI))
             ·exact fun _ _ h => os rfl ((yl_move rfl (h.dt 6 80 rfl rfl rfl) kI))
             ·exact fun _ _ h => OpR.want rfl rfl (h.dt 7 81 rfl rfl rfl) (not_t hb456) (Yl.sameI (yl_move rfl (h.old 4 _ rfl rfl) kI))
             ·exact fun _ _ h => OpR.want rfl rfl (h.dt 7 81 rfl rfl rfl) (not_t hb456) (Yl.sameI (yl_move rfl (h.old 5 _ rfl rfl) kI))
             ·intro L535 w536 hi537
              have hE538 := hi537.ex
              have hE538z := Ex.size hE538
              exact OpR.want rfl rfl (hi537.dt 7 81 rfl rfl rfl) (not_t hb456) (Yl.sameI (yl_indexAddrN Try.un88 Try.ty59 rfl (hi537.dt 8 82 rfl rfl rfl) (hi537.dt 9 83 rfl rfl rfl) eA470 (by first | omega | assumption | (simp only [IntKind.wrap_i64] at *; omega)) kI))
             ·exact fun _ _ h => OpR.want rfl rfl (h.dt 7 81 rfl rfl rfl) (not_t hb456) (Yl.sameI (yl_loadN (cs := [.string (bs (((s_l24Way (p_0.Ways.getD 0 d_Table) p_0.Name ((((p_0.Ways.getD ((IntKind.wrap .i64 ((p_0.Ways.length : Int) - 1)).toNat) d_Table).Idxs).getD (((s_l24Idx (p_0.Ways.getD ((IntKind.wrap .i64 ((p_0.Ways.length : Int) - 1)).toNat) d_Table) p_0.Name)).toNat) d_Idx).Stage)).getD k404 d_Table).Name)), .slice A471 ((((s_l24Way (p_0.Ways.getD 0 d_Table) p_0.Name ((((p_0.Ways.getD ((IntKind.wrap .i64 ((p_0.Ways.length : Int) - 1)).toNat) d_Table).Idxs).getD (((s_l24Idx (p_0.Ways.getD ((IntKind.wrap .i64 ((p_0.Ways.length : Int) - 1)).toNat) d_Table) p_0.Name)).toNat) d_Idx).Stage)).getD k404 d_Table).Cols).length) c471, .slice A472 ((((s_l24Way (p_0.Ways.getD 0 d_Table) p_0.Name ((((p_0.Ways.getD ((IntKind.wrap .i64 ((p_0.Ways.length : Int) - 1)).toNat) d_Table).Idxs).getD (((s_l24Idx (p_0.Ways.getD ((IntKind.wrap .i64 ((p_0.Ways.length : Int) - 1)).toNat) d_Table) p_0.Name)).toNat) d_Idx).Stage)).getD k404 d_Table).Idxs).length) c472]) Try.ty59 rfl (h.dt 10 84 rfl rfl rfl) (Cells.ex eC470 h.ex) rfl kI))
             ·exact fun _ _ h => OpR.want rfl rfl (h.dt 7 81 rfl rfl rfl) (not_t hb456) (Yl.sameI (yl_fieldAddr Try.fd91_1 rfl (h.old 1 _ rfl rfl) kI))
             ·exact fun _ _ h => OpR.want rfl rfl (h.dt 7 81 rfl rfl rfl) (not_t hb456) (Yl.sameI (yl_load1 Try.ty88 rfl (h.dt 12 86 rfl rfl rfl) (((Box.ex hf444 h.ex).cell 1).trans rfl) kI))
             ·exact fun _ _ h => OpR.want rfl rfl (h.dt 7 81 rfl rfl rfl) (not_t hb456) (Yl.sameI (yl_move rfl (h.old 5 _ rfl rfl) kI))
             ·intro L568 w569 hi570
              have hE571 := hi570.ex
              have hE571z := Ex.size hE571
              exact OpR.want rfl rfl (hi570.dt 7 81 rfl rfl rfl) (not_t hb456) (Yl.sameI (yl_indexAddrN Try.un88 Try.ty59 rfl (hi570.dt 13 87 rfl rfl rfl) (hi570.dt 14 88 rfl rfl rfl) eA466 (by first | omega | assumption | (simp only [IntKind.wrap_i64] at *; omega)) kI))
             ·exact fun _ _ h => OpR.want rfl rfl (h.dt 7 81 rfl rfl rfl) (not_t hb456) (Yl.sameI (yl_loadN (cs := [.string (bs ((p_0.Ways.getD k404 d_Table).Name)), .slice A467 (((p_0.Ways.getD k404 d_Table).Cols).length) c467, .slice A468 (((p_0.Ways.getD k404 d_Table).Idxs).length) c468]) Try.ty59 rfl (h.dt 15 89 rfl rfl rfl) (Cells.ex eC466 h.ex) rfl kI))
             ·intro L582 w583 hi584
              have hE585 := hi584.ex
              refine OpR.want rfl rfl (hi584.dt 7 81 rfl rfl rfl) (not_t hb456) (yl_call Try.en193 rfl (opvs_cons (hi584.dt 11 85 rfl rfl rfl) (opvs_cons (hi584.dt 16 90 rfl rfl rfl) opvs_nil)) (Cal.mono (c_s_l24SameCols ((s_l24Way (p_0.Ways.getD 0 d_Table) p_0.Name ((((p_0.Ways.getD ((IntKind.wrap .i64 ((p_0.Ways.length : Int) - 1)).toNat) d_Table).Idxs).getD (((s_l24Idx (p_0.Ways.getD ((IntKind.wrap .i64 ((p_0.Ways.length : Int) - 1)).toNat) d_Table) p_0.Name)).toNat) d_Idx).Stage)).getD k404 d_Table) (p_0.Ways.getD k404 d_Table) (RdS.up (RdS.ex good_Str h471 hE585) good_Str) (RdS.up (RdS.ex good_Idx h472 hE585) good_Idx) (RdS.up (RdS.ex good_Str h467 hE585) good_Str) (RdS.up (RdS.ex good_Idx h468 hE585) good_Idx) (okL.getD h396 ok_d_Table _) (okL.getD o4.2.1 ok_d_Table _)) ?_))
              rintro v594 w593 ⟨rfl, hE595⟩
              exact ⟨rfl, hE595⟩
             ·exact fun _ _ h => OpR.want rfl rfl (h.dt 7 81 rfl rfl rfl) (not_t hb456) (Yl.sameI (yl_not rfl (h.dt 17 91 rfl rfl rfl) kI))
             ·exact fun _ _ h => os rfl ((yl_pick_f rfl (h.dt 7 81 rfl rfl rfl) (not_t hb456) (h.dt 18 92 rfl rfl rfl) kI))
             ·exact fun _ _ h => os rfl ((yl_move rfl (h.dt 19 93 rfl rfl rfl) kI))
             ·exact fun _ _ h => OpR.want rfl rfl (h.dt 20 94 rfl rfl rfl) (not_t hb465) (Yl.sameI (yl_move rfl (h.old 4 _ rfl rfl) kI))
             ·exact fun _ _ h => OpR.want rfl rfl (h.dt 20 94 rfl rfl rfl) (not_t hb465) (Yl.sameI (yl_move rfl (h.old 5 _ rfl rfl) kI))
             ·intro L625 w626 hi627
              have hE628 := hi627.ex
              have hE628z := Ex.size hE628
              exact OpR.want rfl rfl (hi627.dt 20 94 rfl rfl rfl) (not_t hb465) (Yl.sameI (yl_indexAddrN Try.un88 Try.ty59 rfl (hi627.dt 21 95 rfl rfl rfl) (hi627.dt 22 96 rfl rfl rfl) eA470 (by first | omega | assumption | (simp only [IntKind.wrap_i64] at *; omega)) kI))
             ·exact fun _ _ h => OpR.want rfl rfl (h.dt 20 94 rfl rfl rfl) (not_t hb465) (Yl.sameI (yl_loadN (cs := [.string (bs (((s_l24Way (p_0.Ways.getD 0 d_Table) p_0.Name ((((p_0.Ways.getD ((IntKind.wrap .i64 ((p_0.Ways.length : Int) - 1)).toNat) d_Table).Idxs).getD (((s_l24Idx (p_0.Ways.getD ((IntKind.wrap .i64 ((p_0.Ways.length : Int) - 1)).toNat) d_Table) p_0.Name)).toNat) d_Idx).Stage)).getD k404 d_Table).Name)), .slice A471 ((((s_l24Way (p_0.Ways.getD 0 d_Table) p_0.Name ((((p_0.Ways.getD ((IntKind.wrap .i64 ((p_0.Ways.length : Int) - 1)).toNat) d_Table).Idxs).getD (((s_l24Idx (p_0.Ways.getD ((IntKind.wrap .i64 ((p_0.Ways.length : Int) - 1)).toNat) d_Table) p_0.Name)).toNat) d_Idx).Stage)).getD k404 d_Table).Cols).length) c471, .slice A472 ((((s_l24Way (p_0.Ways.getD 0 d_Table) p_0.Name ((((p_0.Ways.getD ((IntKind.wrap .i64 ((p_0.Ways.length : Int) - 1)).toNat) d_Table).Idxs).getD (((s_l24Idx (p_0.Ways.getD ((IntKind.wrap .i64 ((p_0.Ways.length : Int) - 1)).toNat) d_Table) p_0.Name)).toNat) d_Idx).Stage)).getD k404 d_Table).Idxs).length) c472]) Try.ty59 rfl (h.dt 23 97 rfl rfl rfl) (Cells.ex eC470 h.ex) rfl kI))
             ·exact fun _ _ h => OpR.want rfl rfl (h.dt 20 94 rfl rfl rfl) (not_t hb465) (Yl.sameI (yl_fieldAddr Try.fd91_1 rfl (h.old 1 _ rfl rfl) kI))
             ·exact fun _ _ h => OpR.want rfl rfl (h.dt 20 94 rfl rfl rfl) (not_t hb465) (Yl.sameI (yl_load1 Try.ty88 rfl (h.dt 25 99 rfl rfl rfl) (((Box.ex hf444 h.ex).cell 1).trans rfl) kI))
             ·exact fun _ _ h => OpR.want rfl rfl (h.dt 20 94 rfl rfl rfl) (not_t hb465) (Yl.sameI (yl_move rfl (h.old 5 _ rfl rfl) kI))
             ·intro L658 w659 hi660
              have hE661 := hi660.ex
              have hE661z := Ex.size hE661
              exact OpR.want rfl rfl (hi660.dt 20 94 rfl rfl rfl) (not_t hb465) (Yl.sameI (yl_indexAddrN Try.un88 Try.ty59 rfl (hi660.dt 26 100 rfl rfl rfl) (hi660.dt 27 101 rfl rfl rfl) eA466 (by first | omega | assumption | (simp only [IntKind.wrap_i64] at *; omega)) kI))
             ·exact fun _ _ h => OpR.want rfl rfl (h.dt 20 94 rfl rfl rfl) (not_t hb465) (Yl.sameI (yl_loadN (cs := [.string (bs ((p_0.Ways.getD k404 d_Table).Name)), .slice A467 (((p_0.Ways.getD k404 d_Table).Cols).length) c467, .slice A468 (((p_0.Ways.getD k404 d_Table).Idxs).length) c468]) Try.ty59 rfl (h.dt 28 102 rfl rfl rfl) (Cells.ex eC466 h.ex) rfl kI))
             ·intro L672 w673 hi674
              have hE675 := hi674.ex
              have hE675z := Ex.size hE675
              refine OpR.want rfl rfl (hi674.dt 20 94 rfl rfl rfl) (not_t hb465) (yl_call Try.en194 rfl (opvs_cons (hi674.dt 24 98 rfl rfl rfl) (opvs_cons (hi674.dt 29 103 rfl rfl rfl) opvs_nil)) (Cal.mono (c_s_l24Far ((s_l24Way (p_0.Ways.getD 0 d_Table) p_0.Name ((((p_0.Ways.getD ((IntKind.wrap .i64 ((p_0.Ways.length : Int) - 1)).toNat) d_Table).Idxs).getD (((s_l24Idx (p_0.Ways.getD ((IntKind.wrap .i64 ((p_0.Ways.length : Int) - 1)).toNat) d_Table) p_0.Name)).toNat) d_Idx).Stage)).getD k404 d_Table) (p_0.Ways.getD k404 d_Table) (RdS.up (RdS.ex good_Str h471 hE675) good_Str) (RdS.up (RdS.ex good_Idx h472 hE675) good_Idx) (RdS.up (RdS.ex good_Str h467 hE675) good_Str) (RdS.up (RdS.ex good_Idx h468 hE675) good_Idx) (okL.getD h396 ok_d_Table _) (okL.getD o4.2.1 ok_d_Table _) (by first | omega | assumption | (simp only [IntKind.wrap_i64] at *; omega))) ?_))
              rintro v684 w683 ⟨rfl, hE685⟩
              exact ⟨rfl, hE685⟩
             ·exact fun _ _ h => OpR.want rfl rfl (h.dt 20 94 rfl rfl rfl) (not_t hb465) (Yl.sameI (yl_neq rfl (h.dt 30 104 rfl rfl rfl) rfl kI))
             ·exact fun _ _ h => os rfl ((yl_pick_f rfl (h.dt 20 94 rfl rfl rfl) (not_t hb465) (h.dt 31 105 rfl rfl rfl) kI))
             ·intro fl701 fh702 L698 w699 hp700
              have hE703 := hp700.ex
              have hE703z := Ex.size hE703
              refine SeqR.done (tn (CW.sub (Sub.cons (d := 1) (hp700.old 1 _ rfl rfl) (Sub.cons (d := 4) (hp700.old 4 _ rfl rfl) (Sub.cons (d := 70) (hp700.old 70 _ rfl rfl) (Sub.cons (d := 71) (hp700.old 71 _ rfl rfl) (Sub.cons (d := 82) (hp700.nt 8 82 rfl rfl rfl) (Sub.cons (d := 83) (hp700.nt 9 83 rfl rfl rfl) (Sub.cons (d := 84) (hp700.nt 10 84 rfl rfl rfl) (Sub.cons (d := 85) (hp700.nt 11 85 rfl rfl rfl) (Sub.cons (d := 86) (hp700.nt 12 86 rfl rfl rfl) (Sub.cons (d := 87) (hp700.nt 13 87 rfl rfl rfl) (Sub.cons (d := 88) (hp700.nt 14 88 rfl rfl rfl) (Sub.cons (d := 89) (hp700.nt 15 89 rfl rfl rfl) (Sub.cons (d := 90) (hp700.nt 16 90 rfl rfl rfl) (Sub.cons (d := 91) (hp700.nt 17 91 rfl rfl rfl) (Sub.cons (d := 92) (hp700.nt 18 92 rfl rfl rfl) (Sub.cons (d := 95) (hp700.nt 21 95 rfl rfl rfl) (Sub.cons (d := 96) (hp700.nt 22 96 rfl rfl rfl) (Sub.cons (d := 97) (hp700.nt 23 97 rfl rfl rfl) (Sub.cons (d := 98) (hp700.nt 24 98 rfl rfl rfl) (Sub.cons (d := 99) (hp700.nt 25 99 rfl rfl rfl) (Sub.cons (d := 100) (hp700.nt 26 100 rfl rfl rfl) (Sub.cons (d := 101) (hp700.nt 27 101 rfl rfl rfl) (Sub.cons (d := 102) (hp700.nt 28 102 rfl rfl rfl) (Sub.cons (d := 103) (hp700.nt 29 103 rfl rfl rfl) (Sub.cons (d := 104) (hp700.nt 30 104 rfl rfl rfl) (Sub.cons (d := 105) (hp700.nt 31 105 rfl rfl rfl) (Sub.cons (d := 106) (hp700.nt 32 106 rfl rfl rfl) (Sub.nil _)))))))))))))))))))))))))))) (bcase (decide ((s_l24Far ((s_l24Way (p_0.Ways.getD 0 d_Table) p_0.Name ((((p_0.Ways.getD ((IntKind.wrap .i64 ((p_0.Ways.length : Int) - 1)).toNat) d_Table).Idxs).getD (((s_l24Idx (p_0.Ways.getD ((IntKind.wrap .i64 ((p_0.Ways.length : Int) - 1)).toNat) d_Table) p_0.Name)).toNat) d_Idx).Stage)).getD k404 d_Table) (p_0.Ways.getD k404 d_Table)) = 0)) (fun hb731 => ?_) (fun hb731 => ?_))))
              ·have hb731p := dec_t hb731
               refine CW.cond_f rfl (not_t hb731) (CW.skip (bn (tn (CW.region (sd rfl (yl_inc rfl rfl rfl (by omega) (sd rfl (yl_move rfl rfl (SeqR.done (tn ?_))))))))))
               have hB732 : B_s_l27Ways_0 p_0 k404 () = .cont () := by simp only [B_s_l27Ways_0, hb16, hb23, hb191, hb216, hb227, hb403, hb456, hb465, hb731, cond_true, cond_false, loopE_done, loopE_ret]
               exact ⟨(s_l24Way (p_0.Ways.getD 0 d_Table) p_0.Name ((((p_0.Ways.getD ((IntKind.wrap .i64 ((p_0.Ways.length : Int) - 1)).toNat) d_Table).Idxs).getD (((s_l24Idx (p_0.Ways.getD ((IntKind.wrap .i64 ((p_0.Ways.length : Int) - 1)).toNat) d_Table) p_0.Name)).toNat) d_Idx).Stage)).length - (k404 + 1), by omega, k404 + 1, rfl, hlt451, (by omega), rfl, rfl, rfl, rfl, (Box.ex hf444 hE703), (RdS.ex good_Table hf445 hE703), (RdS.ex good_Int hf446 hE703), (RdS.ex good_Write hf447 hE703), (RdS.ex good_Table hf448 hE703), (Ex.trans hf449 hE703), (loopM.cont hlt451 hB732).symm.trans hI438⟩
              ·have hb731p := dec_f hb731
               refine CW.cond_t rfl (not_f hb731) (CW.seq (CW.region (sd rfl (yl_assign rfl rfl (SeqR.done (tn (CW.ret (br (tr ?_)))))))))
               refine tr ?_
               have hB740 : B_s_l27Ways_0 p_0 k404 () = .ret false := by simp only [B_s_l27Ways_0, hb16, hb23, hb191, hb216, hb227, hb403, hb456, hb465, hb731, cond_true, cond_false, loopE_done, loopE_ret]
               have hL739 : loopM (B_s_l27Ways_0 p_0) ((s_l24Way (p_0.Ways.getD 0 d_Table) p_0.Name ((((p_0.Ways.getD ((IntKind.wrap .i64 ((p_0.Ways.length : Int) - 1)).toNat) d_Table).Idxs).getD (((s_l24Idx (p_0.Ways.getD ((IntKind.wrap .i64 ((p_0.Ways.length : Int) - 1)).toNat) d_Table) p_0.Name)).toNat) d_Idx).Stage)).length - 0) 0 () = .ret false := hI438.symm.trans (loopM.ret hlt451 hB740)
               refine br (tr (rr rfl (.cons rfl .nil) ?_))
               have hM741 : (s_l27Ways p_0) = (false) := by simp only [s_l27Ways, hb16, hb23, hb191, hb216, hb227, hb403, hb456, hb465, hb731, hL739, cond_true, cond_false, loopE_done, loopE_ret]
               rw [hM741]
               exact ⟨rfl, (Ex.trans hf449 hE703)⟩
            ·obtain ⟨eb743, eo743, ec743, eA743, eS743, ebl743, el743, eR743, eC743⟩ := RdS.atD hf445 d_Table (i := k404) (by first | omega | assumption)
             obtain ⟨A744, c744, A745, c745, rfl, h744, h745⟩ := eR743
             have eC743 : Cells w436 eb743 (eo743 + k404 * 3) [.string (bs ((p_0.Ways.getD k404 d_Table).Name)), .slice A744 (((p_0.Ways.getD k404 d_Table).Cols).length) c744, .slice A745 (((p_0.Ways.getD k404 d_Table).Idxs).length) c745] := eC743
             obtain ⟨eb747, eo747, ec747, eA747, eS747, ebl747, el747, eR747, eC747⟩ := RdS.atD hf448 d_Table (i := k404) (by first | omega | assumption)
             obtain ⟨A748, c748, A749, c749, rfl, h748, h749⟩ := eR747
             have eC747 : Cells w436 eb747 (eo747 + k404 * 3) [.string (bs (((s_l24Way (p_0.Ways.getD 0 d_Table) p_0.Name ((((p_0.Ways.getD ((IntKind.wrap .i64 ((p_0.Ways.length : Int) - 1)).toNat) d_Table).Idxs).getD (((s_l24Idx (p_0.Ways.getD ((IntKind.wrap .i64 ((p_0.Ways.length : Int) - 1)).toNat) d_Table) p_0.Name)).toNat) d_Idx).Stage)).getD k404 d_Table).Name)), .slice A748 ((((s_l24Way (p_0.Ways.getD 0 d_Table) p_0.Name ((((p_0.Ways.getD ((IntKind.wrap .i64 ((p_0.Ways.length : Int) - 1)).toNat) d_Table).Idxs).getD (((s_l24Idx (p_0.Ways.getD ((IntKind.wrap .i64 ((p_0.Ways.length : Int) - 1)).toNat) d_Table) p_0.Name)).toNat) d_Idx).Stage)).getD k404 d_Table).Cols).length) c748, .slice A749 ((((s_l24Way (p_0.Ways.getD 0 d_Table) p_0.Name ((((p_0.Ways.getD ((IntKind.wrap .i64 ((p_0.Ways.length : Int) - 1)).toNat) d_Table).Idxs).getD (((s_l24Idx (p_0.Ways.getD ((IntKind.wrap .i64 ((p_0.Ways.length : Int) - 1)).toNat) d_Table) p_0.Name)).toNat) d_Idx).Stage)).getD k404 d_Table).Idxs).length) c749] := eC747
             refine CW.drawsI 33 (vgetI [DetI (.pointer (some ⟨b9, 0 + 1, none⟩)), DetI (.slice A1 p_0.Ways.length c1), DetI (.int .i64 ((k404 : Int))), DetI (.pointer (some ⟨eb743, eo743 + k404 * 3, none⟩)), DetI (.agg #[.string (bs ((p_0.Ways.getD k404 d_Table).Name)), .slice A744 (((p_0.Ways.getD k404 d_Table).Cols).length) c744, .slice A745 (((p_0.Ways.getD k404 d_Table).Idxs).length) c745]), DetI (.bool ((s_GoodTable (p_0.Ways.getD k404 d_Table)))), DetI (.bool (!(s_GoodTable (p_0.Ways.getD k404 d_Table)))), DetI (.bool (!(s_GoodTable (p_0.Ways.getD k404 d_Table)))), DetI (.slice A257_399 ((s_l24Way (p_0.Ways.getD 0 d_Table) p_0.Name ((((p_0.Ways.getD ((IntKind.wrap .i64 ((p_0.Ways.length : Int) - 1)).toNat) d_Table).Idxs).getD (((s_l24Idx (p_0.Ways.getD ((IntKind.wrap .i64 ((p_0.Ways.length : Int) - 1)).toNat) d_Table) p_0.Name)).toNat) d_Idx).Stage)).length) c257_400), DetI (.int .i64 ((k404 : Int))), DetI (.pointer (some ⟨eb747, eo747 + k404 * 3, none⟩)), DetI (.agg #[.string (bs (((s_l24Way (p_0.Ways.getD 0 d_Table) p_0.Name ((((p_0.Ways.getD ((IntKind.wrap .i64 ((p_0.Ways.length : Int) - 1)).toNat) d_Table).Idxs).getD (((s_l24Idx (p_0.Ways.getD ((IntKind.wrap .i64 ((p_0.Ways.length : Int) - 1)).toNat) d_Table) p_0.Name)).toNat) d_Idx).Stage)).getD k404 d_Table).Name)), .slice A748 ((((s_l24Way (p_0.Ways.getD 0 d_Table) p_0.Name ((((p_0.Ways.getD ((IntKind.wrap .i64 ((p_0.Ways.length : Int) - 1)).toNat) d_Table).Idxs).getD (((s_l24Idx (p_0.Ways.getD ((IntKind.wrap .i64 ((p_0.Ways.length : Int) - 1)).toNat) d_Table) p_0.Name)).toNat) d_Idx).Stage)).getD k404 d_Table).Cols).length) c748, .slice A749 ((((s_l24Way (p_0.Ways.getD 0 d_Table) p_0.Name ((((p_0.Ways.getD ((IntKind.wrap .i64 ((p_0.Ways.length : Int) - 1)).toNat) d_Table).Idxs).getD (((s_l24Idx (p_0.Ways.getD ((IntKind.wrap .i64 ((p_0.Ways.length : Int) - 1)).toNat) d_Table) p_0.Name)).toNat) d_Idx).Stage)).getD k404 d_Table).Idxs).length) c749]), DetI (.pointer (some ⟨b9, 0 + 1, none⟩)), DetI (.slice A1 p_0.Ways.length c1), DetI (.int .i64 ((k404 : Int))), DetI (.pointer (some ⟨eb743, eo743 + k404 * 3, none⟩)), DetI (.agg #[.string (bs ((p_0.Ways.getD k404 d_Table).Name)), .slice A744 (((p_0.Ways.getD k404 d_Table).Cols).length) c744, .slice A745 (((p_0.Ways.getD k404 d_Table).Idxs).length) c745]), DetI (.bool ((s_l24SameCols ((s_l24Way (p_0.Ways.getD 0 d_Table) p_0.Name ((((p_0.Ways.getD ((IntKind.wrap .i64 ((p_0.Ways.length : Int) - 1)).toNat) d_Table).Idxs).getD (((s_l24Idx (p_0.Ways.getD ((IntKind.wrap .i64 ((p_0.Ways.length : Int) - 1)).toNat) d_Table) p_0.Name)).toNat) d_Idx).Stage)).getD k404 d_Table) (p_0.Ways.getD k404 d_Table)))), DetI (.bool (!(s_l24SameCols ((s_l24Way (p_0.Ways.getD 0 d_Table) p_0.Name ((((p_0.Ways.getD ((IntKind.wrap .i64 ((p_0.Ways.length : Int) - 1)).toNat) d_Table).Idxs).getD (((s_l24Idx (p_0.Ways.getD ((IntKind.wrap .i64 ((p_0.Ways.length : Int) - 1)).toNat) d_Table) p_0.Name)).toNat) d_Idx).Stage)).getD k404 d_Table) (p_0.Ways.getD k404 d_Table)))), DetI (.bool (!(s_l24SameCols ((s_l24Way (p_0.Ways.getD 0 d_Table) p_0.Name ((((p_0.Ways.getD ((IntKind.wrap .i64 ((p_0.Ways.length : Int) - 1)).toNat) d_Table).Idxs).getD (((s_l24Idx (p_0.Ways.getD ((IntKind.wrap .i64 ((p_0.Ways.length : Int) - 1)).toNat) d_Table) p_0.Name)).toNat) d_Idx).Stage)).getD k404 d_Table) (p_0.Ways.getD k404 d_Table)))), DetI (.bool (!(s_l24SameCols ((s_l24Way (p_0.Ways.getD 0 d_Table) p_0.Name ((((p_0.Ways.getD ((IntKind.wrap .i64 ((p_0.Ways.length : Int) - 1)).toNat) d_Table).Idxs).getD (((s_l24Idx (p_0.Ways.getD ((IntKind.wrap .i64 ((p_0.Ways.length : Int) - 1)).toNat) d_Table) p_0.Name)).toNat) d_Idx).Stage)).getD k404 d_Table) (p_0.Ways.getD k404 d_Table)))), DetI (undef), DetI (undef), DetI (undef), DetI (undef), DetI (undef), DetI (undef), DetI (undef), DetI (undef), DetI (undef), DetI (undef), DetI (undef), DetI (.bool (true))]) Try.follows rfl rfl rfl rfl rfl rfl (vgetI_stable ⟨StableI.det _, StableI.det _, StableI.det _, StableI.det _, StableI.det _, StableI.det _, StableI.det _, StableI.det _, StableI.det _, StableI.det _, StableI.det _, StableI.det _, StableI.det _, StableI.det _, StableI.det _, StableI.det _, StableI.det _, StableI.det _, StableI.det _, StableI.det _, StableI.det _, StableI.det _, StableI.det _, StableI.det _, StableI.det _, StableI.det _, StableI.det _, StableI.det _, StableI.det _, StableI.det _, StableI.det _, StableI.det _, StableI.det _, trivial⟩) ⟨?_, ?_, ?_, ?_, ?_, ?_, ?_, ?_, ?_, ?_, ?_, ?_, ?_, ?_, ?_, ?_, ?_, ?_, ?_, ?_, ?_, ?_, ?_, ?_, ?_, ?_, ?_, ?_, ?_, ?_, ?_, ?_, ?_, trivial⟩ ?_
             ·exact fun _ _ h => os rfl ((yl_fieldAddr Try.fd91_1 rfl (h.old 1 _ rfl rfl) kI))
             ·exact fun _ _ h => os rfl ((yl_load1 Try.ty88 rfl (h.dt 0 74 rfl rfl rfl) (((Box.ex hf444 h.ex).cell 1).trans rfl) kI))
             ·exact fun _ _ h => os rfl ((yl_move rfl (h.old 5 _ rfl rfl) kI))
             ·intro L767 w768 hi769
              have hE770 := hi769.ex
              have hE770z := Ex.size hE770
              exact os rfl ((yl_indexAddrN Try.un88 Try.ty59 rfl (hi769.dt 1 75 rfl rfl rfl) (hi769.dt 2 76 rfl rfl rfl) eA743 (by first | omega | assumption | (simp only [IntKind.wrap_i64] at *; omega)) kI))
             ·exact fun _ _ h => os rfl ((yl_loadN (cs := [.string (bs ((p_0.Ways.getD k404 d_Table).Name)), .slice A744 (((p_0.Ways.getD k404 d_Table).Cols).length) c744, .slice A745 (((p_0.Ways.getD k404 d_Table).Idxs).length) c745]) Try.ty59 rfl (h.dt 3 77 rfl rfl rfl) (Cells.ex eC743 h.ex) rfl kI))
             ·intro L779 w780 hi781
              have hE782 := hi781.ex
              refine OpR.op' rfl (yl_call Try.en131 rfl (opvs_cons (hi781.dt 4 78 rfl rfl rfl) opvs_nil) (Cal.mono (c_s_GoodTable (p_0.Ways.getD k404 d_Table) (RdS.up (RdS.ex good_Str h744 hE782) good_Str) (RdS.up (RdS.ex good_Idx h745 hE782) good_Idx) (okL.getD o4.2.1 ok_d_Table _)) ?_))
              rintro v787 w786 ⟨rfl, hE788⟩
              exact ⟨rfl, hE788⟩
             ·exact fun _ _ h => os rfl ((yl_not rfl (h.dt 5 79 rfl rfl rfl) kI))
             ·exact fun _ _ h => os rfl ((yl_move rfl (h.dt 6 80 rfl rfl rfl) kI))
             ·exact fun _ _ h => OpR.want rfl rfl (h.dt 7 81 rfl rfl rfl) (not_t hb456) (Yl.sameI (yl_move rfl (h.old 4 _ rfl rfl) kI))
             ·exact fun _ _ h => OpR.want rfl rfl (h.dt 7 81 rfl rfl rfl) (not_t hb456) (Yl.sameI (yl_move rfl (h.old 5 _ rfl rfl) kI))
             ·intro L811 w812 hi813
              have hE814 := hi813.ex
              have hE814z := Ex.size hE814
              exact OpR.want rfl rfl (hi813.dt 7 81 rfl rfl rfl) (not_t hb456) (Yl.sameI (yl_indexAddrN Try.un88 Try.ty59 rfl (hi813.dt 8 82 rfl rfl rfl) (hi813.dt 9 83 rfl rfl rfl) eA747 (by first | omega | assumption | (simp only [IntKind.wrap_i64] at *; omega)) kI))
             ·exact fun _ _ h => OpR.want rfl rfl (h.dt 7 81 rfl rfl rfl) (not_t hb456) (Yl.sameI (yl_loadN (cs := [.string (bs (((s_l24Way (p_0.Ways.getD 0 d_Table) p_0.Name ((((p_0.Ways.getD ((IntKind.wrap .i64 ((p_0.Ways.length : Int) - 1)).toNat) d_Table).Idxs).getD (((s_l24Idx (p_0.Ways.getD ((IntKind.wrap .i64 ((p_0.Ways.length : Int) - 1)).toNat) d_Table) p_0.Name)).toNat) d_Idx).Stage)).getD k404 d_Table).Name)), .slice A748 ((((s_l24Way (p_0.Ways.getD 0 d_Table) p_0.Name ((((p_0.Ways.getD ((IntKind.wrap .i64 ((p_0.Ways.length : Int) - 1)).toNat) d_Table).Idxs).getD (((s_l24Idx (p_0.Ways.getD ((IntKind.wrap .i64 ((p_0.Ways.length : Int) - 1)).toNat) d_Table) p_0.Name)).toNat) d_Idx).Stage)).getD k404 d_Table).Cols).length) c748, .slice A749 ((((s_l24Way (p_0.Ways.getD 0 d_Table) p_0.Name ((((p_0.Ways.getD ((IntKind.wrap .i64 ((p_0.Ways.length : Int) - 1)).toNat) d_Table).Idxs).getD (((s_l24Idx (p_0.Ways.getD ((IntKind.wrap .i64 ((p_0.Ways.length : Int) - 1)).toNat) d_Table) p_0.Name)).toNat) d_Idx).Stage)).getD k404 d_Table).Idxs).length) c749]) Try.ty59 rfl (h.dt 10 84 rfl rfl rfl) (Cells.ex eC747 h.ex) rfl kI))
             ·exact fun _ _ h => OpR.want rfl rfl (h.dt 7 81 rfl rfl rfl) (not_t hb456) (Yl.sameI (yl_fieldAddr Try.fd91_1 rfl (h.old 1 _ rfl rfl) kI))
             ·exact fun _ _ h => OpR.want rfl rfl (h.dt 7 81 rfl rfl rfl) (not_t hb456) (Yl.sameI (yl_load1 Try.ty88 rfl (h.dt 12 86 rfl rfl rfl) (((Box.ex hf444 h.ex).cell 1).trans rfl) kI))
             ·exact fun _ _ h => OpR.want rfl rfl (h.dt 7 81 rfl rfl rfl) (not_t hb456) (Yl.sameI (yl_move rfl (h.old 5 _ rfl rfl) kI))
             ·intro L844 w845 hi846
              have hE847 := hi846.ex
              have hE847z := Ex.size hE847
              exact OpR.want rfl rfl (hi846.dt 7 81 rfl rfl rfl) (not_t hb456) (Yl.sameI (yl_indexAddrN Try.un88 Try.ty59 rfl (hi846.dt 13 87 rfl rfl rfl) (hi846.dt 14 88 rfl rfl rfl) eA743 (by first | omega | assumption | (simp only [IntKind.wrap_i64] at *; omega)) kI))
             ·exact fun _ _ h => OpR.want rfl rfl (h.dt 7 81 rfl rfl rfl) (not_t hb456) (Yl.sameI (yl_loadN (cs := [.string (bs ((p_0.Ways.getD k404 d_Table).Name)), .slice A744 (((p_0.Ways.getD k404 d_Table).Cols).length) c744, .slice A745 (((p_0.Ways.getD k404 d_Table).Idxs).length) c745]) Try.ty59 rfl (h.dt 15 89 rfl rfl rfl) (Cells.ex eC743 h.ex) rfl kI))
             ·intro L858 w859 hi860
              have hE861 := hi860.ex
              refine OpR.want rfl rfl (hi860.dt 7 81 rfl rfl rfl) (not_t hb456) (yl_call Try.en193 rfl (opvs_cons (hi860.dt 11 85 rfl rfl rfl) (opvs_cons (hi860.dt 16 90 rfl rfl rfl) opvs_nil)) (Cal.mono (c_s_l24SameCols ((s_l24Way (p_0.Ways.getD 0 d_Table) p_0.Name ((((p_0.Ways.getD ((IntKind.wrap .i64 ((p_0.Ways.length : Int) - 1)).toNat) d_Table).Idxs).getD (((s_l24Idx (p_0.Ways.getD ((IntKind.wrap .i64 ((p_0.Ways.length : Int) - 1)).toNat) d_Table) p_0.Name)).toNat) d_Idx).Stage)).getD k404 d_Table) (p_0.Ways.getD k404 d_Table) (RdS.up (RdS.ex good_Str h748 hE861) good_Str) (RdS.up (RdS.ex good_Idx h749 hE861) good_Idx) (RdS.up (RdS.ex good_Str h744 hE861) good_Str) (RdS.up (RdS.ex good_Idx h745 hE861) good_Idx) (okL.getD h396 ok_d_Table _) (okL.getD o4.2.1 ok_d_Table _)) ?_))
              rintro v870 w869 ⟨rfl, hE871⟩
              exact ⟨rfl, hE871⟩
             ·exact fun _ _ h => OpR.want rfl rfl (h.dt 7 81 rfl rfl rfl) (not_t hb456) (Yl.sameI (yl_not rfl (h.dt 17 91 rfl rfl rfl) kI))
             ·exact fun _ _ h => os rfl ((yl_pick_f rfl (h.dt 7 81 rfl rfl rfl) (not_t hb456) (h.dt 18 92 rfl rfl rfl) kI))
             ·exact fun _ _ h => os rfl ((yl_move rfl (h.dt 19 93 rfl rfl rfl) kI))
             ·exact fun _ _ h => OpR.skip rfl rfl (h.dt 20 94 rfl rfl rfl) (not_f hb465) ⟨rfl, Ex.refl _⟩
             ·exact fun _ _ h => OpR.skip rfl rfl (h.dt 20 94 rfl rfl rfl) (not_f hb465) ⟨rfl, Ex.refl _⟩
             ·exact fun _ _ h => OpR.skip rfl rfl (h.dt 20 94 rfl rfl rfl) (not_f hb465) ⟨rfl, Ex.refl _⟩
             ·exact fun _ _ h => OpR.skip rfl rfl (h.dt 20 94 rfl rfl rfl) (not_f hb465) ⟨rfl, Ex.refl _⟩
             ·exact fun _ _ h => OpR.skip rfl rfl (h.dt 20 94 rfl rfl rfl) (not_f hb465) ⟨rfl, Ex.refl _⟩
             ·exact fun _ _ h => OpR.skip rfl rfl (h.dt 20 94 rfl rfl rfl) (not_f hb465) ⟨rfl, Ex.refl _⟩
             ·exact fun _ _ h => OpR.skip rfl rfl (h.dt 20 94 rfl rfl rfl) (not_f hb465) ⟨rfl, Ex.refl _⟩
             ·exact fun _ _ h => OpR.skip rfl rfl (h.dt 20 94 rfl rfl rfl) (not_f hb465) ⟨rfl, Ex.refl _⟩
             ·exact fun _ _ h => OpR.skip rfl rfl (h.dt 20 94 rfl rfl rfl) (not_f hb465) ⟨rfl, Ex.refl _⟩
             ·exact fun _ _ h => OpR.skip rfl rfl (h.dt 20 94 rfl rfl rfl) (not_f hb465) ⟨rfl, Ex.refl _⟩
             ·exact fun _ _ h => OpR.skip rfl rfl (h.dt 20 94 rfl rfl rfl) (not_f hb465) ⟨rfl, Ex.refl _⟩
             ·exact fun _ _ h => os rfl ((yl_pick_t rfl (h.dt 20 94 rfl rfl rfl) (not_f hb465) rfl kI))
             ·intro fl953 fh954 L950 w951 hp952
              have hE955 := hp952.ex
              have hE955z := Ex.size hE955
              refine SeqR.done (tn (CW.sub (Sub.cons (d := 1) (hp952.old 1 _ rfl rfl) (Sub.cons (d := 4) (hp952.old 4 _ rfl rfl) (Sub.cons (d := 70) (hp952.old 70 _ rfl rfl) (Sub.cons (d := 71) (hp952.old 71 _ rfl rfl) (Sub.cons (d := 82) (hp952.nt 8 82 rfl rfl rfl) (Sub.cons (d := 83) (hp952.nt 9 83 rfl rfl rfl) (Sub.cons (d := 84) (hp952.nt 10 84 rfl rfl rfl) (Sub.cons (d := 85) (hp952.nt 11 85 rfl rfl rfl) (Sub.cons (d := 86) (hp952.nt 12 86 rfl rfl rfl) (Sub.cons (d := 87) (hp952.nt 13 87 rfl rfl rfl) (Sub.cons (d := 88) (hp952.nt 14 88 rfl rfl rfl) (Sub.cons (d := 89) (hp952.nt 15 89 rfl rfl rfl) (Sub.cons (d := 90) (hp952.nt 16 90 rfl rfl rfl) (Sub.cons (d := 91) (hp952.nt 17 91 rfl rfl rfl) (Sub.cons (d := 92) (hp952.nt 18 92 rfl rfl rfl) (Sub.cons (d := 95) (hp952.nt 21 95 rfl rfl rfl) (Sub.cons (d := 96) (hp952.nt 22 96 rfl rfl rfl) (Sub.cons (d := 97) (hp952.nt 23 97 rfl rfl rfl) (Sub.cons (d := 98) (hp952.nt 24 98 rfl rfl rfl) (Sub.cons (d := 99) (hp952.nt 25 99 rfl rfl rfl) (Sub.cons (d := 100) (hp952.nt 26 100 rfl rfl rfl) (Sub.cons (d := 101) (hp952.nt 27 101 rfl rfl rfl) (Sub.cons (d := 102) (hp952.nt 28 102 rfl rfl rfl) (Sub.cons (d := 103) (hp952.nt 29 103 rfl rfl rfl) (Sub.cons (d := 104) (hp952.nt 30 104 rfl rfl rfl) (Sub.cons (d := 105) (hp952.nt 31 105 rfl rfl rfl) (Sub.cons (d := 106) (hp952.nt 32 106 rfl rfl rfl) (Sub.nil _)))))))))))))))))))))))))))) (CW.cond_t rfl rfl (CW.seq (CW.region (sd rfl (yl_assign rfl rfl (SeqR.done (tn ?_)))))))))
              refine CW.ret (br (tr (tr ?_)))
              have hB984 : B_s_l27Ways_0 p_0 k404 () = .ret false := by simp only [B_s_l27Ways_0, hb16, hb23, hb191, hb216, hb227, hb403, hb456, hb465, cond_true, cond_false, loopE_done, loopE_ret]
              have hL983 : loopM (B_s_l27Ways_0 p_0) ((s_l24Way (p_0.Ways.getD 0 d_Table) p_0.Name ((((p_0.Ways.getD ((IntKind.wrap .i64 ((p_0.Ways.length : Int) - 1)).toNat) d_Table).Idxs).getD (((s_l24Idx (p_0.Ways.getD ((IntKind.wrap .i64 ((p_0.Ways.length : Int) - 1)).toNat) d_Table) p_0.Name)).toNat) d_Idx).Stage)).length - 0) 0 () = .ret false := hI438.symm.trans (loopM.ret hlt451 hB984)
              refine br (tr (rr rfl (.cons rfl .nil) ?_))
              have hM985 : (s_l27Ways p_0) = (false) := by simp only [s_l27Ways, hb16, hb23, hb191, hb216, hb227, hb403, hb456, hb465, hL983, cond_true, cond_false, loopE_done, loopE_ret]
              rw [hM985]
              exact ⟨rfl, (Ex.trans hf449 hE955)⟩
           ·obtain ⟨eb987, eo987, ec987, eA987, eS987, ebl987, el987, eR987, eC987⟩ := RdS.atD hf445 d_Table (i := k404) (by first | omega | assumption)
            obtain ⟨A988, c988, A989, c989, rfl, h988, h989⟩ := eR987
            have eC987 : Cells w436 eb987 (eo987 + k404 * 3) [.string (bs ((p_0.Ways.getD k404 d_Table).Name)), .slice A988 (((p_0.Ways.getD k404 d_Table).Cols).length) c988, .slice A989 (((p_0.Ways.getD k404 d_Table).Idxs).length) c989] := eC987
            refine CW.drawsI 33 (vgetI [DetI (.pointer (some ⟨b9, 0 + 1, none⟩)), DetI (.slice A1 p_0.Ways.length c1), DetI (.int .i64 ((k404 : Int))), DetI (.pointer (some ⟨eb987, eo987 + k404 * 3, none⟩)), DetI (.agg #[.string (bs ((p_0.Ways.getD k404 d_Table).Name)), .slice A988 (((p_0.Ways.getD k404 d_Table).Cols).length) c988, .slice A989 (((p_0.Ways.getD k404 d_Table).Idxs).length) c989]), DetI (.bool ((s_GoodTable (p_0.Ways.getD k404 d_Table)))), DetI (.bool (!(s_GoodTable (p_0.Ways.getD k404 d_Table)))), DetI (.bool (!(s_GoodTable (p_0.Ways.getD k404 d_Table)))), DetI (undef), DetI (undef), DetI (undef), DetI (undef), DetI (undef), DetI (undef), DetI (undef), DetI (undef), DetI (undef), DetI (undef), DetI (undef), DetI (.bool (true)), DetI (.bool (true)), DetI (undef), DetI (undef), DetI (undef), DetI (undef), DetI (undef), DetI (undef), DetI (undef), DetI (undef), DetI (undef), DetI (undef), DetI (undef), DetI (.bool (true))]) Try.follows rfl rfl rfl rfl rfl rfl (vgetI_stable ⟨StableI.det _, StableI.det _, StableI.det _, StableI.det _, StableI.det _, StableI.det _, StableI.det _, StableI.det _, StableI.det _, StableI.det _, StableI.det _, StableI.det _, StableI.det _, StableI.det _, StableI.det _, StableI.det _, StableI.det _, StableI.det _, StableI.det _, StableI.det _, StableI.det _, StableI.det _, StableI.det _, StableI.det _, StableI.det _, StableI.det _, StableI.det _, StableI.det _, StableI.det _, StableI.det _, StableI.det _, StableI.det _, StableI.det _, trivial⟩) ⟨?_, ?_, ?_, ?_, ?_, ?_, ?_, ?_, ?_, ?_, ?_, ?_, ?_, ?_, ?_, ?_, ?_, ?_, ?_, ?_, ?_, ?_, ?_, ?_, ?_, ?_, ?_, ?_, ?_, ?_, ?_, ?_, ?_, trivial⟩ ?_
            ·exact fun _ _ h => os rfl ((yl_fieldAddr Try.fd91_1 rfl (h.old 1 _ rfl rfl) kI))
            ·exact fun _ _ h => os rfl ((yl_load1 Try.ty88 rfl (h.dt 0 74 rfl rfl rfl) (((Box.ex hf444 h.ex).cell 1).trans rfl) kI))
            ·exact fun _ _ h => os rfl ((yl_move rfl (h.old 5 _ rfl rfl) kI))
            ·intro L1007 w1008 hi1009
             have hE1010 := hi1009.ex
             have hE1010z := Ex.size hE1010
             exact os rfl ((yl_indexAddrN Try.un88 Try.ty59 rfl (hi1009.dt 1 75 rfl rfl rfl) (hi1009.dt 2 76 rfl rfl rfl) eA987 (by first | omega | assumption | (simp only [IntKind.wrap_i64] at *; omega)) kI))
            ·exact fun _ _ h => os rfl ((yl_loadN (cs := [.string (bs ((p_0.Ways.getD k404 d_Table).Name)), .slice A988 (((p_0.Ways.getD k404 d_Table).Cols).length) c988, .slice A989 (((p_0.Ways.getD k404 d_Table).Idxs).length) c989]) Try.ty59 rfl (h.dt 3 77 rfl rfl rfl) (Cells.ex eC987 h.ex) rfl kI))
            ·intro L1019 w1020 hi1021
             have hE1022 := hi1021.ex
             refine OpR.op' rfl (yl_call Try.en131 rfl (opvs_cons (hi1021.dt 4 78 rfl rfl rfl) opvs_nil) (Cal.mono (c_s_GoodTable (p_0.Ways.getD k404 d_Table) (RdS.up (RdS.ex good_Str h988 hE1022) good_Str) (RdS.up (RdS.ex good_Idx h989 hE1022) good_Idx) (okL.getD o4.2.1 ok_d_Table _)) ?_))
             rintro v1027 w1026 ⟨rfl, hE1028⟩
             exact ⟨rfl, hE1028⟩
            ·exact fun _ _ h => os rfl ((yl_not rfl (h.dt 5 79 rfl rfl rfl) kI))
            ·exact fun _ _ h => os rfl ((yl_move rfl (h.dt 6 80 rfl rfl rfl) kI))
            ·exact fun _ _ h => OpR.skip rfl rfl (h.dt 7 81 rfl rfl rfl) (not_f hb456) ⟨rfl, Ex.refl _⟩
            ·exact fun _ _ h => OpR.skip rfl rfl (h.dt 7 81 rfl rfl rfl) (not_f hb456) ⟨rfl, Ex.refl _⟩
            ·exact fun _ _ h => OpR.skip rfl rfl (h.dt 7 81 rfl rfl rfl) (not_f hb456) ⟨rfl, Ex.refl _⟩
            ·exact fun _ _ h => OpR.skip rfl rfl (h.dt 7 81 rfl rfl rfl) (not_f hb456) ⟨rfl, Ex.refl _⟩
            ·exact fun _ _ h => OpR.skip rfl rfl (h.dt 7 81 rfl rfl rfl) (not_f hb456) ⟨rfl, Ex.refl _⟩
            ·exact fun _ _ h => OpR.skip rfl rfl (h.dt 7 81 rfl rfl rfl) (not_f hb456) ⟨rfl, Ex.refl _⟩
            ·exact fun _ _ h => OpR.skip rfl rfl (h.dt 7 81 rfl rfl rfl) (not_f hb456) ⟨rfl, Ex.refl _⟩
            ·exact fun _ _ h => OpR.skip rfl rfl (h.dt 7 81 rfl rfl rfl) (not_f hb456) ⟨rfl, Ex.refl _⟩
            ·exact fun _ _ h => OpR.skip rfl rfl (h.dt 7 81 rfl rfl rfl) (not_f hb456) ⟨rfl, Ex.refl _⟩
            ·exact fun _ _ h => OpR.skip rfl rfl (h.dt 7 81 rfl rfl rfl) (not_f hb456) ⟨rfl, Ex.refl _⟩
            ·exact fun _ _ h => OpR.skip rfl rfl (h.dt 7 81 rfl rfl rfl) (not_f hb456) ⟨rfl, Ex.refl _⟩
            ·exact fun _ _ h => os rfl ((yl_pick_t rfl (h.dt 7 81 rfl rfl rfl) (not_f hb456) rfl kI))
            ·exact fun _ _ h => os rfl ((yl_move rfl (h.dt 19 93 rfl rfl rfl) kI))
            ·exact fun _ _ h => OpR.skip rfl rfl (h.dt 20 94 rfl rfl rfl) rfl ⟨rfl, Ex.refl _⟩
            ·exact fun _ _ h => OpR.skip rfl rfl (h.dt 20 94 rfl rfl rfl) rfl ⟨rfl, Ex.refl _⟩
            ·exact fun _ _ h => OpR.skip rfl rfl (h.dt 20 94 rfl rfl rfl) rfl ⟨rfl, Ex.refl _⟩
            ·exact fun _ _ h => OpR.skip rfl rfl (h.dt 20 94 rfl rfl rfl) rfl ⟨rfl, Ex.refl _⟩
            ·exact fun _ _ h => OpR.skip rfl rfl (h.dt 20 94 rfl rfl rfl) rfl ⟨rfl, Ex.refl _⟩
            ·exact fun _ _ h => OpR.skip rfl rfl (h.dt 20 94 rfl rfl rfl) rfl ⟨rfl, Ex.refl _⟩
            ·exact fun _ _ h => OpR.skip rfl rfl (h.dt 20 94 rfl rfl rfl) rfl ⟨rfl, Ex.refl _⟩
            ·exact fun _ _ h => OpR.skip rfl rfl (h.dt 20 94 rfl rfl rfl) rfl ⟨rfl, Ex.refl _⟩
            ·exact fun _ _ h => OpR.skip rfl rfl (h.dt 20 94 rfl rfl rfl) rfl ⟨rfl, Ex.refl _⟩
            ·exact fun _ _ h => OpR.skip rfl rfl (h.dt 20 94 rfl rfl rfl) rfl ⟨rfl, Ex.refl _⟩
            ·exact fun _ _ h => OpR.skip rfl rfl (h.dt 20 94 rfl rfl rfl) rfl ⟨rfl, Ex.refl _⟩
            ·exact fun _ _ h => os rfl ((yl_pick_t rfl (h.dt 20 94 rfl rfl rfl) rfl rfl kI))
            ·intro fl1169 fh1170 L1166 w1167 hp1168
             have hE1171 := hp1168.ex
             have hE1171z := Ex.size hE1171
             refine SeqR.done (tn (CW.sub (Sub.cons (d := 1) (hp1168.old 1 _ rfl rfl) (Sub.cons (d := 4) (hp1168.old 4 _ rfl rfl) (Sub.cons (d := 70) (hp1168.old 70 _ rfl rfl) (Sub.cons (d := 71) (hp1168.old 71 _ rfl rfl) (Sub.cons (d := 82) (hp1168.nt 8 82 rfl rfl rfl) (Sub.cons (d := 83) (hp1168.nt 9 83 rfl rfl rfl) (Sub.cons (d := 84) (hp1168.nt 10 84 rfl rfl rfl) (Sub.cons (d := 85) (hp1168.nt 11 85 rfl rfl rfl) (Sub.cons (d := 86) (hp1168.nt 12 86 rfl rfl rfl) (Sub.cons (d := 87) (hp1168.nt 13 87 rfl rfl rfl) (Sub.cons (d := 88) (hp1168.nt 14 88 rfl rfl rfl) (Sub.cons (d := 89) (hp1168.nt 15 89 rfl rfl rfl) (Sub.cons (d := 90) (hp1168.nt 16 90 rfl rfl rfl) (Sub.cons (d := 91) (hp1168.nt 17 91 rfl rfl rfl) (Sub.cons (d := 92) (hp1168.nt 18 92 rfl rfl rfl) (Sub.cons (d := 95) (hp1168.nt 21 95 rfl rfl rfl) (Sub.cons (d := 96) (hp1168.nt 22 96 rfl rfl rfl) (Sub.cons (d := 97) (hp1168.nt 23 97 rfl rfl rfl) (Sub.cons (d := 98) (hp1168.nt 24 98 rfl rfl rfl) (Sub.cons (d := 99) (hp1168.nt 25 99 rfl rfl rfl) (Sub.cons (d := 100) (hp1168.nt 26 100 rfl rfl rfl) (Sub.cons (d := 101) (hp1168.nt 27 101 rfl rfl rfl) (Sub.cons (d := 102) (hp1168.nt 28 102 rfl rfl rfl) (Sub.cons (d := 103) (hp1168.nt 29 103 rfl rfl rfl) (Sub.cons (d := 104) (hp1168.nt 30 104 rfl rfl rfl) (Sub.cons (d := 105) (hp1168.nt 31 105 rfl rfl rfl) (Sub.cons (d := 106) (hp1168.nt 32 106 rfl rfl rfl) (Sub.nil _)))))))))))))))))))))))))))) (CW.cond_t rfl rfl (CW.seq (CW.region (sd rfl (yl_assign rfl rfl (SeqR.done (tn ?_)))))))))
             refine CW.ret (br (tr (tr ?_)))
             have hB1200 : B_s_l27Ways_0 p_0 k404 () = .ret false := by simp only [B_s_l27Ways_0, hb16, hb23, hb191, hb216, hb227, hb403, hb456, cond_true, cond_false, loopE_done, loopE_ret]
             have hL1199 : loopM (B_s_l27Ways_0 p_0) ((s_l24Way (p_0.Ways.getD 0 d_Table) p_0.Name ((((p_0.Ways.getD ((IntKind.wrap .i64 ((p_0.Ways.length : Int) - 1)).toNat) d_Table).Idxs).getD (((s_l24Idx (p_0.Ways.getD ((IntKind.wrap .i64 ((p_0.Ways.length : Int) - 1)).toNat) d_Table) p_0.Name)).toNat) d_Idx).Stage)).length - 0) 0 () = .ret false := hI438.symm.trans (loopM.ret hlt451 hB1200)
             refine br (tr (rr rfl (.cons rfl .nil) ?_))
             have hM1201 : (s_l27Ways p_0) = (false) := by simp only [s_l27Ways, hb16, hb23, hb191, hb216, hb227, hb403, hb456, hL1199, cond_true, cond_false, loopE_done, loopE_ret]
             rw [hM1201]
             exact ⟨rfl, (Ex.trans hf449 hE1171)⟩
          ·refine CW.seq (CW.region (sd rfl (yl_lss rfl rfl rfl (SeqR.done (tn (CW.seq (CW.cond_f rfl (lt_f hlt451) (CW.exit (tx ?_)))))))))
           refine tx ?_
           have hL1203 : loopM (B_s_l27Ways_0 p_0) ((s_l24Way (p_0.Ways.getD 0 d_Table) p_0.Name ((((p_0.Ways.getD ((IntKind.wrap .i64 ((p_0.Ways.length : Int) - 1)).toNat) d_Table).Idxs).getD (((s_l24Idx (p_0.Ways.getD ((IntKind.wrap .i64 ((p_0.Ways.length : Int) - 1)).toNat) d_Table) p_0.Name)).toNat) d_Idx).Stage)).length - 0) 0 () = .done () := hI438.symm.trans (loopM.stop hlt451)
           refine bx (tn (CW.seq (CW.region (sd rfl (yl_assign rfl rfl (SeqR.done (tn (CW.ret (rr rfl (.cons rfl .nil) ?_)))))))))
           have hM1204 : (s_l27Ways p_0) = (true) := by simp only [s_l27Ways, hb16, hb23, hb191, hb216, hb227, hb403, hL1203, cond_true, cond_false, loopE_done, loopE_ret]
           rw [hM1204]
           exact ⟨rfl, hf449⟩
        ·have hb403p := dec_f hb403
         refine CW.cond_t rfl (not_f hb403) (CW.seq (CW.region (sd rfl (yl_assign rfl rfl (SeqR.done (tn (CW.ret (tr (rr rfl (.cons rfl .nil) ?_)))))))))
         have hM1205 : (s_l27Ways p_0) = (false) := by simp only [s_l27Ways, hb16, hb23, hb191, hb216, hb227, hb403, cond_true, cond_false, loopE_done, loopE_ret]
         rw [hM1205]
         exact ⟨rfl, (Ex.trans (Ex.trans (Ex.trans (Below.only (Ex.trans (Ex.trans (Ex.trans (Ex.refl w) hE14) hE188) hE205) hO208 (by omega)) hE215) hE225) hE387)⟩
     ·refine sz rfl rfl (not_f hb216) (sz rfl rfl (not_f hb216) (sz rfl rfl (not_f hb216) (sz rfl rfl (not_f hb216) (sz rfl rfl (not_f hb216) (sd rfl (yl_pick_t rfl rfl (not_f hb216) rfl (SeqR.done (tn (CW.cond_t rfl rfl ?_)))))))))
      refine CW.seq (CW.region (sd rfl (yl_assign rfl rfl (SeqR.done (tn (CW.ret (tr (rr rfl (.cons rfl .nil) ?_))))))))
      have hM1213 : (s_l27Ways p_0) = (false) := by simp only [s_l27Ways, hb16, hb23, hb191, hb216, cond_true, cond_false, loopE_done, loopE_ret]
      rw [hM1213]
      exact ⟨rfl, (Ex.trans (Below.only (Ex.trans (Ex.trans (Ex.trans (Ex.refl w) hE14) hE188) hE205) hO208 (by omega)) hE215)⟩
  ·obtain ⟨eb1221, eo1221, ec1221, eA1221, eS1221, ebl1221, el1221, eR1221, eC1221⟩ := RdS.atD (RdS.ex good_Table h1 hE14) d_Table (i := 0) (by first | omega | assumption)
   obtain ⟨A1222, c1222, A1223, c1223, rfl, h1222, h1223⟩ := eR1221
   have eC1221 : Cells w10 eb1221 (eo1221 + 0 * 3) [.string (bs ((p_0.Ways.getD 0 d_Table).Name)), .slice A1222 (((p_0.Ways.getD 0 d_Table).Cols).length) c1222, .slice A1223 (((p_0.Ways.getD 0 d_Table).Idxs).length) c1223] := eC1221
   refine CW.drawsI 23 (vgetI [DetI (.pointer (some ⟨b9, 0 + 1, none⟩)), DetI (.slice A1 p_0.Ways.length c1), DetI (.int .i64 ((p_0.Ways.length : Int))), DetI (.bool ((s_l1In (p_0.Ways.length : Int) 1 4))), DetI (.bool (!(s_l1In (p_0.Ways.length : Int) 1 4))), DetI (.bool (!(s_l1In (p_0.Ways.length : Int) 1 4))), DetI (.pointer (some ⟨b9, 0 + 1, none⟩)), DetI (.slice A1 p_0.Ways.length c1), DetI (.pointer (some ⟨eb1221, eo1221 + 0 * 3, none⟩)), DetI (.agg #[.string (bs ((p_0.Ways.getD 0 d_Table).Name)), .slice A1222 (((p_0.Ways.getD 0 d_Table).Cols).length) c1222, .slice A1223 (((p_0.Ways.getD 0 d_Table).Idxs).length) c1223]), DetI (.bool ((s_GoodTable (p_0.Ways.getD 0 d_Table)))), DetI (.bool (!(s_GoodTable (p_0.Ways.getD 0 d_Table)))), DetI (.bool (!(s_GoodTable (p_0.Ways.getD 0 d_Table)))), DetI (.bool (!(s_GoodTable (p_0.Ways.getD 0 d_Table)))), DetI (undef), DetI (undef), DetI (undef), DetI (undef), DetI (undef), DetI (undef), DetI (undef), DetI (undef), DetI (.bool (true))]) Try.follows rfl rfl rfl rfl rfl rfl (vgetI_stable ⟨StableI.det _, StableI.det _, StableI.det _, StableI.det _, StableI.det _, StableI.det _, StableI.det _, StableI.det _, StableI.det _, StableI.det _, StableI.det _, StableI.det _, StableI.det _, StableI.det _, StableI.det _, StableI.det _, StableI.det _, StableI.det _, StableI.det _, StableI.det _, StableI.det _, StableI.det _, StableI.det _, trivial⟩) ⟨?_, ?_, ?_, ?_, ?_, ?_, ?_, ?_, ?_, ?_, ?_, ?_, ?_, ?_, ?_, ?_, ?_, ?_, ?_, ?_, ?_, ?_, ?_, trivial⟩ ?_
   ·exact fun _ _ h => os rfl ((yl_fieldAddr Try.fd91_1 rfl (h.old 1 _ rfl rfl) kI))
   ·exact fun _ _ h => os rfl ((yl_load1 Try.ty88 rfl (h.dt 0 6 rfl rfl rfl) (((Box.ex hB13 h.ex).cell 1).trans rfl) kI))
   ·exact fun _ _ h => os rfl ((yl_len Try.un88 rfl (h.dt 1 7 rfl rfl rfl) kI))
   ·intro L1241 w1242 hi1243
    refine OpR.op' rfl (yl_call Try.en50 rfl (opvs_cons (hi1243.dt 2 8 rfl rfl rfl) (opvs_cons rfl (opvs_cons rfl opvs_nil))) (Cal.mono (c_s_l1In (p_0.Ways.length : Int) 1 4) ?_))
    rintro v1247 w1246 ⟨rfl, hE1248⟩
    exact ⟨rfl, hE1248⟩
   ·exact fun _ _ h => os rfl ((yl_not rfl (h.dt 3 9 rfl rfl rfl) kI))
   ·exact fun _ _ h => os rfl ((yl_move rfl (h.dt 4 10 rfl rfl rfl) kI))
   ·exact fun _ _ h => OpR.want rfl rfl (h.dt 5 11 rfl rfl rfl) (not_t hb16) (Yl.sameI (yl_fieldAddr Try.fd91_1 rfl (h.old 1 _ rfl rfl) kI))
   ·exact fun _ _ h => OpR.want rfl rfl (h.dt 5 11 rfl rfl rfl) (not_t hb16) (Yl.sameI (yl_load1 Try.ty88 rfl (h.dt 6 12 rfl rfl rfl) (((Box.ex hB13 h.ex).cell 1).trans rfl) kI))
   ·intro L1272 w1273 hi1274
    have hE1275 := hi1274.ex
    have hE1275z := Ex.size hE1275
    exact OpR.want rfl rfl (hi1274.dt 5 11 rfl rfl rfl) (not_t hb16) (Yl.sameI (yl_indexAddrN Try.un88 Try.ty59 rfl (hi1274.dt 7 13 rfl rfl rfl) rfl eA1221 (by first | omega | assumption | (simp only [IntKind.wrap_i64] at *; omega)) kI))
   ·exact fun _ _ h => OpR.want rfl rfl (h.dt 5 11 rfl rfl rfl) (not_t hb16) (Yl.sameI (yl_loadN (cs := [.string (bs ((p_0.Ways.getD 0 d_Table).Name)), .slice A1222 (((p_0.Ways.getD 0 d_Table).Cols).length) c1222, .slice A1223 (((p_0.Ways.getD 0 d_Table).Idxs).length) c1223]) Try.ty59 rfl (h.dt 8 14 rfl rfl rfl) (Cells.ex eC1221 h.ex) rfl kI))
   ·intro L1285 w1286 hi1287
    have hE1288 := hi1287.ex
    refine OpR.want rfl rfl (hi1287.dt 5 11 rfl rfl rfl) (not_t hb16) (yl_call Try.en131 rfl (opvs_cons (hi1287.dt 9 15 rfl rfl rfl) opvs_nil) (Cal.mono (c_s_GoodTable (p_0.Ways.getD 0 d_Table) (RdS.up (RdS.ex good_Str h1222 hE1288) good_Str) (RdS.up (RdS.ex good_Idx h1223 hE1288) good_Idx) (okL.getD o4.2.1 ok_d_Table _)) ?_))
    rintro v1294 w1293 ⟨rfl, hE1295⟩
    exact ⟨rfl, hE1295⟩
   ·exact fun _ _ h => OpR.want rfl rfl (h.dt 5 11 rfl rfl rfl) (not_t hb16) (Yl.sameI (yl_not rfl (h.dt 10 16 rfl rfl rfl) kI))
   ·exact fun _ _ h => os rfl ((yl_pick_f rfl (h.dt 5 11 rfl rfl rfl) (not_t hb16) (h.dt 11 17 rfl rfl rfl) kI))
   ·exact fun _ _ h => os rfl ((yl_move rfl (h.dt 12 18 rfl rfl rfl) kI))
   ·exact fun _ _ h => OpR.skip rfl rfl (h.dt 13 19 rfl rfl rfl) (not_f hb23) ⟨rfl, Ex.refl _⟩
   ·exact fun _ _ h => OpR.skip rfl rfl (h.dt 13 19 rfl rfl rfl) (not_f hb23) ⟨rfl, Ex.refl _⟩
   ·exact fun _ _ h => OpR.skip rfl rfl (h.dt 13 19 rfl rfl rfl) (not_f hb23) ⟨rfl, Ex.refl _⟩
   ·exact fun _ _ h => OpR.skip rfl rfl (h.dt 13 19 rfl rfl rfl) (not_f hb23) ⟨rfl, Ex.refl _⟩
   ·exact fun _ _ h => OpR.skip rfl rfl (h.dt 13 19 rfl rfl rfl) (not_f hb23) ⟨rfl, Ex.refl _⟩
   ·exact fun _ _ h => OpR.skip rfl rfl (h.dt 13 19 rfl rfl rfl) (not_f hb23) ⟨rfl, Ex.refl _⟩
   ·exact fun _ _ h => OpR.skip rfl rfl (h.dt 13 19 rfl rfl rfl) (not_f hb23) ⟨rfl, Ex.refl _⟩
   ·exact fun _ _ h => OpR.skip rfl rfl (h.dt 13 19 rfl rfl rfl) (not_f hb23) ⟨rfl, Ex.refl _⟩
   ·exact fun _ _ h => os rfl ((yl_pick_t rfl (h.dt 13 19 rfl rfl rfl) (not_f hb23) rfl kI))
   ·intro fl1362 fh1363 L1359 w1360 hp1361
    have hE1364 := hp1361.ex
    have hE1364z := Ex.size hE1364
    refine SeqR.done (tn (CW.sub (Sub.cons (d := 1) (hp1361.old 1 _ rfl rfl) (Sub.cons (d := 28) (hp1361.nt 22 28 rfl rfl rfl) (Sub.nil _))) (CW.cond_t rfl rfl (CW.seq (CW.region (sd rfl (yl_assign rfl rfl (SeqR.done (tn ?_)))))))))
    refine CW.ret (tr (rr rfl (.cons rfl .nil) ?_))
    have hM1367 : (s_l27Ways p_0) = (false) := by simp only [s_l27Ways, hb16, hb23, cond_true, cond_false, loopE_done, loopE_ret]
    rw [hM1367]
    exact ⟨rfl, (Ex.trans (Ex.trans (Ex.refl w) hE14) hE1364)⟩
 ·refine CW.drawsI 23 (vgetI [DetI (.pointer (some ⟨b9, 0 + 1, none⟩)), DetI (.slice A1 p_0.Ways.length c1), DetI (.int .i64 ((p_0.Ways.length : Int))), DetI (.bool ((s_l1In (p_0.Ways.length : Int) 1 4))), DetI (.bool (!(s_l1In (p_0.Ways.length : Int) 1 4))), DetI (.bool (!(s_l1In (p_0.Ways.length : Int) 1 4))), DetI (undef), DetI (undef), DetI (undef), DetI (undef), DetI (undef), DetI (undef), DetI (.bool (true)), DetI (.bool (true)), DetI (undef), DetI (undef), DetI (undef), DetI (undef), DetI (undef), DetI (undef), DetI (undef), DetI (undef), DetI (.bool (true))]) Try.follows rfl rfl rfl rfl rfl rfl (vgetI_stable ⟨StableI.det _, StableI.det _, StableI.det _, StableI.det _, StableI.det _, StableI.det _, StableI.det _, StableI.det _, StableI.det _, StableI.det _, StableI.det _, StableI.det _, StableI.det _, StableI.det _, StableI.det _, StableI.det _, StableI.det _, StableI.det _, StableI.det _, StableI.det _, StableI.det _, StableI.det _, StableI.det _, trivial⟩) ⟨?_, ?_, ?_, ?_, ?_, ?_, ?_, ?_, ?_, ?_, ?_, ?_, ?_, ?_, ?_, ?_, ?_, ?_, ?_, ?_, ?_, ?_, ?_, trivial⟩ ?_
  ·exact fun _ _ h => os rfl ((yl_fieldAddr Try.fd91_1 rfl (h.old 1 _ rfl rfl) kI))
  ·exact fun _ _ h => os rfl ((yl_load1 Try.ty88 rfl (h.dt 0 6 rfl rfl rfl) (((Box.ex hB13 h.ex).cell 1).trans rfl) kI))
  ·exact fun _ _ h => os rfl ((yl_len Try.un88 rfl (h.dt 1 7 rfl rfl rfl) kI))
  ·intro L1387 w1388 hi1389
   refine OpR.op' rfl (yl_call Try.en50 rfl (opvs_cons (hi1389.dt 2 8 rfl rfl rfl) (opvs_cons rfl (opvs_cons rfl opvs_nil))) (Cal.mono (c_s_l1In (p_0.Ways.length : Int) 1 4) ?_))
   rintro v1393 w1392 ⟨rfl, hE1394⟩
   exact ⟨rfl, hE1394⟩
  ·exact fun _ _ h => os rfl ((yl_not rfl (h.dt 3 9 rfl rfl rfl) kI))
  ·exact fun _ _ h => os rfl ((yl_move rfl (h.dt 4 10 rfl rfl rfl) kI))
  ·exact fun _ _ h => OpR.skip rfl rfl (h.dt 5 11 rfl rfl rfl) (not_f hb16) ⟨rfl, Ex.refl _⟩
  ·exact fun _ _ h => OpR.skip rfl rfl (h.dt 5 11 rfl rfl rfl) (not_f hb16) ⟨rfl, Ex.refl _⟩
  ·exact fun _ _ h => OpR.skip rfl rfl (h.dt 5 11 rfl rfl rfl) (not_f hb16) ⟨rfl, Ex.refl _⟩
  ·exact fun _ _ h => OpR.skip rfl rfl (h.dt 5 11 rfl rfl rfl) (not_f hb16) ⟨rfl, Ex.refl _⟩
  ·exact fun _ _ h => OpR.skip rfl rfl (h.dt 5 11 rfl rfl rfl) (not_f hb16) ⟨rfl, Ex.refl _⟩
  ·exact fun _ _ h => OpR.skip rfl rfl (h.dt 5 11 rfl rfl rfl) (not_f hb16) ⟨rfl, Ex.refl _⟩
  ·exact fun _ _ h => os rfl ((yl_pick_t rfl (h.dt 5 11 rfl rfl rfl) (not_f hb16) rfl kI))
  ·exact fun _ _ h => os rfl ((yl_move rfl (h.dt 12 18 rfl rfl rfl) kI))
  ·exact fun _ _ h => OpR.skip rfl rfl (h.dt 13 19 rfl rfl rfl) rfl ⟨rfl, Ex.refl _⟩
  ·exact fun _ _ h => OpR.skip rfl rfl (h.dt 13 19 rfl rfl rfl) rfl ⟨rfl, Ex.refl _⟩
  ·exact fun _ _ h => OpR.skip rfl rfl (h.dt 13 19 rfl rfl rfl) rfl ⟨rfl, Ex.refl _⟩
  ·exact fun _ _ h => OpR.skip rfl rfl (h.dt 13 19 rfl rfl rfl) rfl ⟨rfl, Ex.refl _⟩
  ·exact fun _ _ h => OpR.skip rfl rfl (h.dt 13 19 rfl rfl rfl) rfl ⟨rfl, Ex.refl _⟩
  ·exact fun _ _ h => OpR.skip rfl rfl (h.dt 13 19 rfl rfl rfl) rfl ⟨rfl, Ex.refl _⟩
  ·exact fun _ _ h => OpR.skip rfl rfl (h.dt 13 19 rfl rfl rfl) rfl ⟨rfl, Ex.refl _⟩
  ·exact fun _ _ h => OpR.skip rfl rfl (h.dt 13 19 rfl rfl rfl) rfl ⟨rfl, Ex.refl _⟩
  ·exact fun _ _ h => os rfl ((yl_pick_t rfl (h.dt 13 19 rfl rfl rfl) rfl rfl kI))
  ·intro fl1495 fh1496 L1492 w1493 hp1494
   have hE1497 := hp1494.ex
   have hE1497z := Ex.size hE1497
   refine SeqR.done (tn (CW.sub (Sub.cons (d := 1) (hp1494.old 1 _ rfl rfl) (Sub.cons (d := 28) (hp1494.nt 22 28 rfl rfl rfl) (Sub.nil _))) (CW.cond_t rfl rfl (CW.seq (CW.region (sd rfl (yl_assign rfl rfl (SeqR.done (tn ?_)))))))))
   refine CW.ret (tr (rr rfl (.cons rfl .nil) ?_))
   have hM1500 : (s_l27Ways p_0) = (false) := by simp only [s_l27Ways, hb16, cond_true, cond_false, loopE_done, loopE_ret]
   rw [hM1500]
   exact ⟨rfl, (Ex.trans (Ex.trans (Ex.refl w) hE14) hE1497)⟩
set_option maxRecDepth 100000 in
set_option maxHeartbeats 2000000 in
theorem c_s_l1All {A1 : Option Addr} {c1 : Nat} {w : World} (p_l : List Int) (p_lo : Int) (p_hi : Int) (h1 : RdS w (Iv 0 w.heap.size) (RF e_Int) 1 A1 p_l.length c1 p_l) (o2 : (okL okT) p_l) : Cal Try.prog 144 #[.slice A1 p_l.length c1, .int .i64 (p_lo), .int .i64 (p_hi)] w fun v w' => v = .bool ((s_l1All p_l p_lo p_hi)) ∧ Ex w w' := by
 have hol3 := o2.1
 refine Cal.of (vs := [.slice A1 p_l.length c1, .int .i64 (p_lo), .int .i64 (p_hi)]) Try.func144 rfl Try.ntmps144 rfl (CW.seq (CW.region (sd rfl (yl_assign rfl rfl (SeqR.done (tn (CW.seq (CW.seq (CW.region ?_)))))))))
 refine sd rfl (yl_move rfl rfl (sd rfl (yl_len Try.un81 rfl rfl (sd rfl (yl_move rfl rfl (SeqR.done (tn (CW.block (CW.loop (fun m5 L6 w7 => ∃ (k4 : Nat), m5 = p_l.length - k4 ∧ k4 ≤ p_l.length ∧ w.heap.size ≤ w7.heap.size ∧ lkp L6 1 = some (.int .i64 (p_lo)) ∧ lkp L6 2 = some (.int .i64 (p_hi)) ∧ lkp L6 9 = some (.slice A1 p_l.length c1) ∧ lkp L6 10 = some (.int .i64 ((p_l.length : Int))) ∧ lkp L6 11 = some (.int .i64 ((k4 : Int))) ∧ RdS w7 (Iv 0 w.heap.size) (RF e_Int) 1 A1 p_l.length c1 p_l ∧ Ex w w7 ∧ loopM (B_s_l1All_0 p_l p_lo p_hi) (p_l.length - k4) k4 () = loopM (B_s_l1All_0 p_l p_lo p_hi) (p_l.length - 0) 0 ()) (p_l.length - 0) ?_ ?_)))))))))
 ·exact ⟨0, rfl, (by omega), Nat.le_refl _, rfl, rfl, rfl, rfl, rfl, h1, (Ex.refl w), rfl⟩
 ·rintro m8 L9 w10 ⟨k4, rfl, hk11, hsz13, hl14, hl15, hl16, hl17, hl18, hf19, hf20, hI12⟩
  refine CW.sub (Sub.cons hl14 (Sub.cons hl15 (Sub.cons hl16 (Sub.cons hl17 (Sub.cons hl18 (Sub.nil _)))))) ?_
  have hf20z := Ex.size hf20
  have hbg21 := RdS.big hf19
  rcases Nat.lt_or_ge k4 p_l.length with hlt22 | hlt22
  ·refine CW.seq (CW.region (sd rfl (yl_lss rfl rfl rfl (SeqR.done (tn (CW.seq (CW.cond_t rfl (lt_t hlt22) (CW.skip (tn ?_)))))))))
   refine CW.seq (CW.block (CW.seq (CW.region ?_)))
   obtain ⟨eb23, eo23, ec23, eA23, eS23, ebl23, el23, eR23, eC23⟩ := RdS.atD hf19 d_Int (i := k4) (by first | omega | assumption)
   obtain rfl := eR23
   have eC23 : Cells w10 eb23 (eo23 + k4 * 1) [.int .i64 ((p_l.getD k4 d_Int))] := eC23
   refine sd rfl (yl_indexAddrN Try.un81 Try.ty3 rfl rfl rfl eA23 (by first | omega | assumption | (simp only [IntKind.wrap_i64] at *; omega)) (sd rfl (yl_load1 Try.ty3 rfl rfl (eC23 0 _ rfl) (sd rfl (yl_assign rfl rfl (SeqR.done (tn (CW.seq (CW.region (sd rfl (yl_move rfl rfl (sd rfl (yl_move rfl rfl ?_)))))))))))))
   refine sd rfl (yl_move rfl rfl (sd rfl (yl_call Try.en50 rfl (opvs_cons rfl (opvs_cons rfl (opvs_cons rfl opvs_nil))) (Cal.mono (c_s_l1In (p_l.getD k4 d_Int) p_lo p_hi) ?_))))
   rintro v25 w24 ⟨rfl, hE26⟩
   have hE26z := Ex.size hE26
   refine sd rfl (yl_not rfl rfl (SeqR.done (tn (bcase (s_l1In (p_l.getD k4 d_Int) p_lo p_hi) (fun hb27 => ?_) (fun hb27 => ?_)))))
   ·have hb27p := f_l1In hb27
    refine CW.cond_f rfl (not_t hb27) (CW.skip (bn (tn (CW.region (sd rfl (yl_inc rfl rfl rfl (by omega) (sd rfl (yl_move rfl rfl (SeqR.done (tn ?_))))))))))
    have hB28 : B_s_l1All_0 p_l p_lo p_hi k4 () = .cont () := by simp only [B_s_l1All_0, hb27, cond_true, cond_false, loopE_done, loopE_ret]
    exact ⟨p_l.length - (k4 + 1), by omega, k4 + 1, rfl, hlt22, (by omega), rfl, rfl, rfl, rfl, rfl, (RdS.ex good_Int hf19 hE26), (Ex.trans hf20 hE26), (loopM.cont hlt22 hB28).symm.trans hI12⟩
   ·refine CW.cond_t rfl (not_f hb27) (CW.seq (CW.region (sd rfl (yl_assign rfl rfl (SeqR.done (tn (CW.ret (br (tr ?_)))))))))
    refine tr ?_
    have hB32 : B_s_l1All_0 p_l p_lo p_hi k4 () = .ret false := by simp only [B_s_l1All_0, hb27, cond_true, cond_false, loopE_done, loopE_ret]
    have hL31 : loopM (B_s_l1All_0 p_l p_lo p_hi) (p_l.length - 0) 0 () = .ret false := hI12.symm.trans (loopM.ret hlt22 hB32)
    refine br (tr (rr rfl (.cons rfl .nil) ?_))
    have hM33 : (s_l1All p_l p_lo p_hi) = (false) := by simp only [s_l1All, hb27, hL31, cond_true, cond_false, loopE_done, loopE_ret]
    rw [hM33]
    exact ⟨rfl, (Ex.trans hf20 hE26)⟩
  ·refine CW.seq (CW.region (sd rfl (yl_lss rfl rfl rfl (SeqR.done (tn (CW.seq (CW.cond_f rfl (lt_f hlt22) (CW.exit (tx ?_)))))))))
   refine tx ?_
   have hL35 : loopM (B_s_l1All_0 p_l p_lo p_hi) (p_l.length - 0) 0 () = .done () := hI12.symm.trans (loopM.stop hlt22)
   refine bx (tn (CW.seq (CW.region (sd rfl (yl_assign rfl rfl (SeqR.done (tn (CW.ret (rr rfl (.cons rfl .nil) ?_)))))))))
   have hM36 : (s_l1All p_l p_lo p_hi) = (true) := by simp only [s_l1All, hL35, cond_true, cond_false, loopE_done, loopE_ret]
   rw [hM36]
   exact ⟨rfl, hf20⟩
set_option maxRecDepth 100000 in
set_option maxHeartbeats 2000000 in
theorem c_s_GoodShift {A1 : Option Addr} {c1 : Nat} {A2 : Option Addr} {c2 : Nat} {A3 : Option Addr} {c3 : Nat} {w : World} (p_c : DShift) (h1 : RdS w (Iv 0 w.heap.size) R_Table 3 A1 p_c.Ways.length c1 p_c.Ways) (h2 : RdS w (Iv 0 w.heap.size) (RF e_Int) 1 A2 p_c.At.length c2 p_c.At) (h3 : RdS w (Iv 0 w.heap.size) (RF e_Write) 3 A3 p_c.Store.length c3 p_c.Store) (o4 : ok_Shift p_c) : Cal Try.prog 88 #[.agg #[.string (bs (p_c.Name)), .slice A1 p_c.Ways.length c1, .slice A2 p_c.At.length c2, .slice A3 p_c.Store.length c3]] w fun v w' => v = .bool ((s_GoodShift p_c)) ∧ Ex w w' := by
 have hol5 : p_c.Name.length ≤ 1073741824 := o4.1
 have hol6 := o4.2.1.1
 have hol7 := o4.2.2.1.1
 have hol8 := o4.2.2.2.1
 refine Cal.of (vs := [.agg #[.string (bs (p_c.Name)), .slice A1 p_c.Ways.length c1, .slice A2 p_c.At.length c2, .slice A3 p_c.Store.length c3]]) Try.func88 rfl Try.ntmps88 rfl (CW.seq (CW.region (sd rfl (yl_box (cs := [.string (bs (p_c.Name)), .slice A1 p_c.Ways.length c1, .slice A2 p_c.At.length c2, .slice A3 p_c.Store.length c3]) rfl rfl rfl ?_))))
 intro b9 w10 hs11 hz12 hB13 hE14
 refine sd rfl (yl_assign rfl rfl (SeqR.done (tn (CW.seq (CW.region (sd rfl (yl_loadN (cs := [.string (bs (p_c.Name)), .slice A1 p_c.Ways.length c1, .slice A2 p_c.At.length c2, .slice A3 p_c.Store.length c3]) Try.ty91 rfl rfl (hB13.cells (n := 4) rfl) rfl ?_)))))))
 have q16 := RdS.ex good_Int h2 hE14
 have q17 := RdS.ex good_Write h3 hE14
 refine sd rfl (yl_call Try.en143 rfl (opvs_cons rfl opvs_nil) (Cal.mono (c_s_l27Ways p_c (RdS.up (RdS.ex good_Table h1 hE14) good_Table) (RdS.up q16 good_Int) (RdS.up q17 good_Write) o4) ?_))
 rintro v19 w18 ⟨rfl, hE20⟩
 have hE20z := Ex.size hE20
 refine sd rfl (yl_move rfl rfl (bcase (s_l27Ways p_c) (fun hb21 => ?_) (fun hb21 => ?_)))
 ·refine sy rfl rfl hb21 (yl_fieldAddr Try.fd91_2 rfl rfl ?_)
  have q22 := Box.ex hB13 hE20
  refine sy rfl rfl hb21 (yl_load1 Try.ty81 rfl rfl ((q22.cell 2).trans rfl) (sy rfl rfl hb21 (yl_len Try.un81 rfl rfl (sy rfl rfl hb21 (yl_call Try.en50 rfl (opvs_cons rfl (opvs_cons rfl (opvs_cons rfl opvs_nil))) (Cal.mono (c_s_l1In (p_c.At.length : Int) 1 3) ?_))))))
  rintro v24 w23 ⟨rfl, hE25⟩
  have hE25z := Ex.size hE25
  refine sd rfl (yl_pick_t rfl rfl hb21 rfl (sd rfl (yl_move rfl rfl (bcase (s_l1In (p_c.At.length : Int) 1 3) (fun hb26 => ?_) (fun hb26 => ?_)))))
  ·have hb26p := f_l1In hb26
   refine sy rfl rfl hb26 (yl_fieldAddr Try.fd91_2 rfl rfl ?_)
   have q27 := Box.ex q22 hE25
   refine sy rfl rfl hb26 (yl_load1 Try.ty81 rfl rfl ((q27.cell 2).trans rfl) (sy rfl rfl hb26 (yl_fieldAddr Try.fd91_1 rfl rfl (sy rfl rfl hb26 (yl_load1 Try.ty88 rfl rfl ((q27.cell 1).trans rfl) (sy rfl rfl hb26 (yl_len Try.un88 rfl rfl (sy rfl rfl hb26 (yl_sub rfl rfl rfl (sy rfl rfl hb26 (yl_call Try.en144 rfl (opvs_cons rfl (opvs_cons rfl (opvs_cons rfl opvs_nil))) (Cal.mono (c_s_l1All p_c.At 0 (IntKind.wrap .i64 ((p_c.Ways.length : Int) - 1)) (RdS.up (RdS.ex good_Int (RdS.ex good_Int q16 hE20) hE25) good_Int) o4.2.2.1) ?_))))))))))))
   rintro v31 w30 ⟨rfl, hE32⟩
   have hE32z := Ex.size hE32
   refine sd rfl (yl_pick_t rfl rfl hb26 rfl (sd rfl (yl_move rfl rfl (bcase (s_l1All p_c.At 0 (IntKind.wrap .i64 ((p_c.Ways.length : Int) - 1))) (fun hb33 => ?_) (fun hb33 => ?_)))))
   ·refine sy rfl rfl hb33 (yl_fieldAddr Try.fd91_3 rfl rfl (sy rfl rfl hb33 (yl_load1 Try.ty89 rfl rfl (((Box.ex q27 hE32).cell 3).trans rfl) (sy rfl rfl hb33 (yl_call Try.en100 rfl (opvs_cons rfl opvs_nil) (Cal.mono (c_s_l5Rows p_c.Store (RdS.up (RdS.ex good_Write (RdS.ex good_Write (RdS.ex good_Write q17 hE20) hE25) hE32) good_Write) o4.2.2.2) ?_))))))
    rintro v39 w38 ⟨rfl, hE40⟩
    have hE40z := Ex.size hE40
    refine sd rfl (yl_pick_t rfl rfl hb33 rfl (sd rfl (yl_assign rfl rfl (SeqR.done (tn (CW.ret (rr rfl (.cons rfl .nil) ?_)))))))
    have hM41 : (s_GoodShift p_c) = ((s_l5Rows p_c.Store)) := by simp only [s_GoodShift, hb21, hb26, hb33, cond_true, cond_false, loopE_done, loopE_ret]
    rw [hM41]
    exact ⟨rfl, (Ex.trans (Ex.trans (Ex.trans (Ex.trans (Ex.trans (Ex.refl w) hE14) hE20) hE25) hE32) hE40)⟩
   ·refine sz rfl rfl hb33 (sz rfl rfl hb33 (sz rfl rfl hb33 (sd rfl (yl_pick_f rfl rfl hb33 rfl (sd rfl (yl_assign rfl rfl (SeqR.done (tn (CW.ret (rr rfl (.cons rfl .nil) ?_))))))))))
    have hM47 : (s_GoodShift p_c) = (false) := by simp only [s_GoodShift, hb21, hb26, hb33, cond_true, cond_false, loopE_done, loopE_ret]
    rw [hM47]
    exact ⟨rfl, (Ex.trans (Ex.trans (Ex.trans (Ex.trans (Ex.refl w) hE14) hE20) hE25) hE32)⟩
  ·refine sz rfl rfl hb26 (sz rfl rfl hb26 (sz rfl rfl hb26 (sz rfl rfl hb26 (sz rfl rfl hb26 (sz rfl rfl hb26 (sz rfl rfl hb26 (sd rfl (yl_pick_f rfl rfl hb26 rfl (sd rfl (yl_move rfl rfl ?_))))))))))
   refine sz rfl rfl rfl (sz rfl rfl rfl (sz rfl rfl rfl (sd rfl (yl_pick_f rfl rfl rfl rfl (sd rfl (yl_assign rfl rfl (SeqR.done (tn (CW.ret (rr rfl (.cons rfl .nil) ?_))))))))))
   have hM52 : (s_GoodShift p_c) = (false) := by simp only [s_GoodShift, hb21, hb26, cond_true, cond_false, loopE_done, loopE_ret]
   rw [hM52]
   exact ⟨rfl, (Ex.trans (Ex.trans (Ex.trans (Ex.refl w) hE14) hE20) hE25)⟩
 ·refine sz rfl rfl hb21 (sz rfl rfl hb21 (sz rfl rfl hb21 (sz rfl rfl hb21 (sd rfl (yl_pick_f rfl rfl hb21 rfl (sd rfl (yl_move rfl rfl (sz rfl rfl rfl (sz rfl rfl rfl (sz rfl rfl rfl ?_))))))))))
  refine sz rfl rfl rfl (sz rfl rfl rfl (sz rfl rfl rfl (sz rfl rfl rfl (sd rfl (yl_pick_f rfl rfl rfl rfl (sd rfl (yl_move rfl rfl (sz rfl rfl rfl (sz rfl rfl rfl (sz rfl rfl rfl ?_))))))))))
  refine sd rfl (yl_pick_f rfl rfl rfl rfl (sd rfl (yl_assign rfl rfl (SeqR.done (tn (CW.ret (rr rfl (.cons rfl .nil) ?_)))))))
  have hM56 : (s_GoodShift p_c) = (false) := by simp only [s_GoodShift, hb21, cond_true, cond_false, loopE_done, loopE_ret]
  rw [hM56]
  exact ⟨rfl, (Ex.trans (Ex.trans (Ex.refl w) hE14) hE20)⟩
set_option maxRecDepth 100000 in
set_option maxHeartbeats 2000000 in
theorem c_s_l27Close {A1 : Option Addr} {c1 : Nat} {w : World} (p_at : List Int) (h1 : RdS w (Iv 0 w.heap.size) (RF e_Int) 1 A1 p_at.length c1 p_at) (o2 : (okL okT) p_at) : Cal Try.prog 89 #[.slice A1 p_at.length c1] w fun v w' => v = .bool ((s_l27Close p_at)) ∧ Ex w w' := by
 have hol3 := o2.1
 refine Cal.of (vs := [.slice A1 p_at.length c1]) Try.func89 rfl Try.ntmps89 rfl (CW.seq (CW.region (sd rfl (yl_assign rfl rfl (SeqR.done (tn (CW.seq (CW.seq (CW.region ?_)))))))))
 refine sd rfl (yl_move rfl rfl (sd rfl (yl_len Try.un81 rfl rfl (sd rfl (yl_move rfl rfl (SeqR.done (tn (CW.block (CW.loop (fun m5 L6 w7 => ∃ (k4 : Nat), m5 = p_at.length - k4 ∧ k4 ≤ p_at.length ∧ w.heap.size ≤ w7.heap.size ∧ lkp L6 0 = some (.slice A1 p_at.length c1) ∧ lkp L6 7 = some (.slice A1 p_at.length c1) ∧ lkp L6 8 = some (.int .i64 ((p_at.length : Int))) ∧ lkp L6 9 = some (.int .i64 ((k4 : Int))) ∧ RdS w7 (Iv 0 w.heap.size) (RF e_Int) 1 A1 p_at.length c1 p_at ∧ Ex w w7 ∧ loopM (B_s_l27Close_0 p_at) (p_at.length - k4) k4 () = loopM (B_s_l27Close_0 p_at) (p_at.length - 0) 0 ()) (p_at.length - 0) ?_ ?_)))))))))
 ·exact ⟨0, rfl, (by omega), Nat.le_refl _, rfl, rfl, rfl, rfl, h1, (Ex.refl w), rfl⟩
 ·rintro m8 L9 w10 ⟨k4, rfl, hk11, hsz13, hl14, hl15, hl16, hl17, hf18, hf19, hI12⟩
  refine CW.sub (Sub.cons hl14 (Sub.cons hl15 (Sub.cons hl16 (Sub.cons hl17 (Sub.nil _))))) ?_
  have hf19z := Ex.size hf19
  have hbg20 := RdS.big hf18
  rcases Nat.lt_or_ge k4 p_at.length with hlt21 | hlt21
  ·refine CW.seq (CW.region (sd rfl (yl_lss rfl rfl rfl (SeqR.done (tn (CW.seq (CW.cond_t rfl (lt_t hlt21) (CW.skip (tn ?_)))))))))
   refine CW.seq (CW.block (CW.seq (CW.region ?_)))
   obtain ⟨eb22, eo22, ec22, eA22, eS22, ebl22, el22, eR22, eC22⟩ := RdS.atD hf18 d_Int (i := k4) (by first | omega | assumption)
   obtain rfl := eR22
   have eC22 : Cells w10 eb22 (eo22 + k4 * 1) [.int .i64 ((p_at.getD k4 d_Int))] := eC22
   refine sd rfl (yl_indexAddrN Try.un81 Try.ty3 rfl rfl rfl eA22 (by first | omega | assumption | (simp only [IntKind.wrap_i64] at *; omega)) (sd rfl (yl_load1 Try.ty3 rfl rfl (eC22 0 _ rfl) (sd rfl (yl_assign rfl rfl (SeqR.done (tn (CW.seq (CW.region (sd rfl (yl_move rfl rfl (sd rfl (yl_len Try.un81 rfl rfl ?_)))))))))))))
   refine sd rfl (yl_move rfl rfl (SeqR.done (tn (CW.block (CW.loop (fun m24 L25 w26 => ∃ (k23 : Nat), m24 = p_at.length - k23 ∧ k23 ≤ p_at.length ∧ w10.heap.size ≤ w26.heap.size ∧ lkp L25 0 = some (.slice A1 p_at.length c1) ∧ lkp L25 4 = some (.int .i64 ((p_at.getD k4 d_Int))) ∧ lkp L25 7 = some (.slice A1 p_at.length c1) ∧ lkp L25 8 = some (.int .i64 ((p_at.length : Int))) ∧ lkp L25 9 = some (.int .i64 ((k4 : Int))) ∧ lkp L25 13 = some (.slice A1 p_at.length c1) ∧ lkp L25 14 = some (.int .i64 ((p_at.length : Int))) ∧ lkp L25 15 = some (.int .i64 ((k23 : Int))) ∧ RdS w26 (Iv 0 w.heap.size) (RF e_Int) 1 A1 p_at.length c1 p_at ∧ Ex w w26 ∧ loopM (B_s_l27Close_1 p_at k4) (p_at.length - k23) k23 () = loopM (B_s_l27Close_1 p_at k4) (p_at.length - 0) 0 ()) (p_at.length - 0) ?_ ?_)))))
   ·exact ⟨0, rfl, (by omega), Nat.le_refl _, rfl, rfl, rfl, rfl, rfl, rfl, rfl, rfl, hf18, hf19, rfl⟩
   ·rintro m27 L28 w29 ⟨k23, rfl, hk30, hsz32, hl33, hl34, hl35, hl36, hl37, hl38, hl39, hl40, hf41, hf42, hI31⟩
    refine CW.sub (Sub.cons hl33 (Sub.cons hl34 (Sub.cons hl35 (Sub.cons hl36 (Sub.cons hl37 (Sub.cons hl38 (Sub.cons hl39 (Sub.cons hl40 (Sub.nil _))))))))) ?_
    have hf42z := Ex.size hf42
    have hbg43 := RdS.big hf41
    rcases Nat.lt_or_ge k23 p_at.length with hlt44 | hlt44
    ·refine CW.seq (CW.region (sd rfl (yl_lss rfl rfl rfl (SeqR.done (tn (CW.seq (CW.cond_t rfl (lt_t hlt44) (CW.skip (tn ?_)))))))))
     refine CW.seq (CW.block (CW.seq (CW.region ?_)))
     obtain ⟨eb45, eo45, ec45, eA45, eS45, ebl45, el45, eR45, eC45⟩ := RdS.atD hf41 d_Int (i := k23) (by first | omega | assumption)
     obtain rfl := eR45
     have eC45 : Cells w29 eb45 (eo45 + k23 * 1) [.int .i64 ((p_at.getD k23 d_Int))] := eC45
     refine sd rfl (yl_indexAddrN Try.un81 Try.ty3 rfl rfl rfl eA45 (by first | omega | assumption | (simp only [IntKind.wrap_i64] at *; omega)) (sd rfl (yl_load1 Try.ty3 rfl rfl (eC45 0 _ rfl) (sd rfl (yl_assign rfl rfl (SeqR.done (tn (CW.seq (CW.region (sd rfl (yl_move rfl rfl (sd rfl (yl_move rfl rfl ?_)))))))))))))
     refine sd rfl (yl_sub rfl rfl rfl (sd rfl (yl_gtr rfl rfl rfl (SeqR.done (tn (bcase (decide (1 < (IntKind.wrap .i64 ((p_at.getD k4 d_Int) - (p_at.getD k23 d_Int))))) (fun hb46 => ?_) (fun hb46 => ?_)))))))
     ·have hb46p := dec_t hb46
      refine CW.cond_t rfl hb46 (CW.seq (CW.region (sd rfl (yl_assign rfl rfl (SeqR.done (tn (CW.ret (br (tr ?_)))))))))
      refine tr ?_
      have hB48 : B_s_l27Close_1 p_at k4 k23 () = .ret false := by simp only [B_s_l27Close_1, hb46, cond_true, cond_false, loopE_done, loopE_ret]
      have hL47 : loopM (B_s_l27Close_1 p_at k4) (p_at.length - 0) 0 () = .ret false := hI31.symm.trans (loopM.ret hlt44 hB48)
      refine br (br (tr (tr ?_)))
      have hB50 : B_s_l27Close_0 p_at k4 () = .ret false := by simp only [B_s_l27Close_0, hb46, hL47, cond_true, cond_false, loopE_done, loopE_ret]
      have hL49 : loopM (B_s_l27Close_0 p_at) (p_at.length - 0) 0 () = .ret false := hI12.symm.trans (loopM.ret hlt21 hB50)
      refine br (tr (rr rfl (.cons rfl .nil) ?_))
      have hM51 : (s_l27Close p_at) = (false) := by simp only [s_l27Close, hb46, hL47, hL49, cond_true, cond_false, loopE_done, loopE_ret]
      rw [hM51]
      exact ⟨rfl, hf42⟩
     ·have hb46p := dec_f hb46
      refine CW.cond_f rfl hb46 (CW.skip (bn (tn (CW.region (sd rfl (yl_inc rfl rfl rfl (by omega) (sd rfl (yl_move rfl rfl (SeqR.done (tn ?_))))))))))
      have hB52 : B_s_l27Close_1 p_at k4 k23 () = .cont () := by simp only [B_s_l27Close_1, hb46, cond_true, cond_false, loopE_done, loopE_ret]
      exact ⟨p_at.length - (k23 + 1), by omega, k23 + 1, rfl, hlt44, (by omega), rfl, rfl, rfl, rfl, rfl, rfl, rfl, rfl, hf41, hf42, (loopM.cont hlt44 hB52).symm.trans hI31⟩
    ·refine CW.seq (CW.region (sd rfl (yl_lss rfl rfl rfl (SeqR.done (tn (CW.seq (CW.cond_f rfl (lt_f hlt44) (CW.exit (tx ?_)))))))))
     refine tx ?_
     have hL53 : loopM (B_s_l27Close_1 p_at k4) (p_at.length - 0) 0 () = .done () := hI31.symm.trans (loopM.stop hlt44)
     refine bx (bn (tn (CW.region (sd rfl (yl_inc rfl rfl rfl (by omega) (sd rfl (yl_move rfl rfl (SeqR.done (tn ?_)))))))))
     have hB54 : B_s_l27Close_0 p_at k4 () = .cont () := by simp only [B_s_l27Close_0, hL53, cond_true, cond_false, loopE_done, loopE_ret]
     exact ⟨p_at.length - (k4 + 1), by omega, k4 + 1, rfl, hlt21, (by omega), rfl, rfl, rfl, rfl, hf41, hf42, (loopM.cont hlt21 hB54).symm.trans hI12⟩
  ·refine CW.seq (CW.region (sd rfl (yl_lss rfl rfl rfl (SeqR.done (tn (CW.seq (CW.cond_f rfl (lt_f hlt21) (CW.exit (tx ?_)))))))))
   refine tx ?_
   have hL55 : loopM (B_s_l27Close_0 p_at) (p_at.length - 0) 0 () = .done () := hI12.symm.trans (loopM.stop hlt21)
   refine bx (tn (CW.seq (CW.region (sd rfl (yl_assign rfl rfl (SeqR.done (tn (CW.ret (rr rfl (.cons rfl .nil) ?_)))))))))
   have hM56 : (s_l27Close p_at) = (true) := by simp only [s_l27Close, hL55, cond_true, cond_false, loopE_done, loopE_ret]
   rw [hM56]
   exact ⟨rfl, hf19⟩
set_option maxRecDepth 100000 in
set_option maxHeartbeats 2000000 in
theorem c_s_AreClose {A1 : Option Addr} {c1 : Nat} {A2 : Option Addr} {c2 : Nat} {A3 : Option Addr} {c3 : Nat} {w : World} (p_c : DShift) (h1 : RdS w (Iv 0 w.heap.size) R_Table 3 A1 p_c.Ways.length c1 p_c.Ways) (h2 : RdS w (Iv 0 w.heap.size) (RF e_Int) 1 A2 p_c.At.length c2 p_c.At) (h3 : RdS w (Iv 0 w.heap.size) (RF e_Write) 3 A3 p_c.Store.length c3 p_c.Store) (o4 : ok_Shift p_c) : Cal Try.prog 35 #[.agg #[.string (bs (p_c.Name)), .slice A1 p_c.Ways.length c1, .slice A2 p_c.At.length c2, .slice A3 p_c.Store.length c3]] w fun v w' => v = .tuple #[.bool ((s_AreClose p_c).1), .bool ((s_AreClose p_c).2)] ∧ Ex w w' := by
 have hol5 : p_c.Name.length ≤ 1073741824 := o4.1
 have hol6 := o4.2.1.1
 have hol7 := o4.2.2.1.1
 have hol8 := o4.2.2.2.1
 refine Cal.of (vs := [.agg #[.string (bs (p_c.Name)), .slice A1 p_c.Ways.length c1, .slice A2 p_c.At.length c2, .slice A3 p_c.Store.length c3]]) Try.func35 rfl Try.ntmps35 rfl (CW.seq (CW.region (sd rfl (yl_box (cs := [.string (bs (p_c.Name)), .slice A1 p_c.Ways.length c1, .slice A2 p_c.At.length c2, .slice A3 p_c.Store.length c3]) rfl rfl rfl ?_))))
 intro b9 w10 hs11 hz12 hB13 hE14
 refine sd rfl (yl_assign rfl rfl (sd rfl (yl_assign rfl rfl (SeqR.done (tn (CW.seq (CW.seq (CW.region (sd rfl (yl_loadN (cs := [.string (bs (p_c.Name)), .slice A1 p_c.Ways.length c1, .slice A2 p_c.At.length c2, .slice A3 p_c.Store.length c3]) Try.ty91 rfl rfl (hB13.cells (n := 4) rfl) rfl ?_))))))))))
 have q16 := RdS.ex good_Int h2 hE14
 refine sd rfl (yl_call Try.en88 rfl (opvs_cons rfl opvs_nil) (Cal.mono (c_s_GoodShift p_c (RdS.up (RdS.ex good_Table h1 hE14) good_Table) (RdS.up q16 good_Int) (RdS.up (RdS.ex good_Write h3 hE14) good_Write) o4) ?_))
 rintro v19 w18 ⟨rfl, hE20⟩
 have hE20z := Ex.size hE20
 refine sd rfl (yl_not rfl rfl (SeqR.done (tn (bcase (s_GoodShift p_c) (fun hb21 => ?_) (fun hb21 => ?_)))))
 ·obtain ⟨hb21p0, hb21p1⟩ := f_s_GoodShift hb21
  refine CW.cond_f rfl (not_t hb21) (CW.skip (tn (CW.seq (CW.region (sd rfl (yl_fieldAddr Try.fd91_2 rfl rfl (sd rfl (yl_load1 Try.ty81 rfl rfl (((Box.ex hB13 hE20).cell 2).trans rfl) (sd rfl (yl_call Try.en89 rfl (opvs_cons rfl opvs_nil) (Cal.mono (c_s_l27Close p_c.At (RdS.up (RdS.ex good_Int q16 hE20) good_Int) o4.2.2.1) ?_)))))))))))
  rintro v25 w24 ⟨rfl, hE26⟩
  have hE26z := Ex.size hE26
  refine sd rfl (yl_assign rfl rfl (sd rfl (yl_assign rfl rfl (SeqR.done (tn (CW.ret (rr rfl (.cons rfl (.cons rfl .nil)) ?_)))))))
  have hM27 : (s_AreClose p_c) = (((s_l27Close p_c.At), true)) := by simp only [s_AreClose, hb21, cond_true, cond_false, loopE_done, loopE_ret]
  rw [hM27]
  exact ⟨rfl, (Ex.trans (Ex.trans (Ex.trans (Ex.refl w) hE14) hE20) hE26)⟩
 ·refine CW.cond_t rfl (not_f hb21) (CW.seq (CW.region (sd rfl (yl_assign rfl rfl (sd rfl (yl_assign rfl rfl (SeqR.done (tn (CW.ret (tr ?_))))))))))
  refine rr rfl (.cons rfl (.cons rfl .nil)) ?_
  have hM31 : (s_AreClose p_c) = ((false, false)) := by simp only [s_AreClose, hb21, cond_true, cond_false, loopE_done, loopE_ret]
  rw [hM31]
  exact ⟨rfl, (Ex.trans (Ex.trans (Ex.refl w) hE14) hE20)⟩
set_option maxRecDepth 100000 in
set_option maxHeartbeats 2000000 in
theorem c_l_toWrite {w : World} (p_a : DWrite) (o1 : ok_Write p_a) : Cal Try.prog 103 #[.agg #[.string (bs (p_a.Key)), .string (bs (p_a.Val)), .bool (p_a.Gone)]] w fun v w' => v = .agg #[.string (bs (p_a.Key)), .string (bs (p_a.Val)), .bool (p_a.Gone)] ∧ Ex w w' := by
 have hol2 : p_a.Key.length ≤ 1073741824 := o1.1
 have hol3 : p_a.Val.length ≤ 1073741824 := o1.2
 refine Cal.of (vs := [.agg #[.string (bs (p_a.Key)), .string (bs (p_a.Val)), .bool (p_a.Gone)]]) Try.func103 rfl Try.ntmps103 rfl (CW.seq (CW.region (sd rfl (yl_box (cs := [.string (bs (p_a.Key)), .string (bs (p_a.Val)), .bool (p_a.Gone)]) rfl rfl rfl ?_))))
 intro b4 w5 hs6 hz7 hB8 hE9
 refine sd rfl (yl_alloc Try.ty54 (cs := [.string (bs (([] : Str))), .string (bs (([] : Str))), .bool (false)]) rfl rfl ?_)
 intro b10 w11 hs12 hz13 hB14 hE15
 refine SeqR.done (tn (CW.seq (CW.region (sd rfl (yl_alloc Try.ty54 (cs := [.string (bs (([] : Str))), .string (bs (([] : Str))), .bool (false)]) rfl rfl ?_)))))
 intro b16 w17 hs18 hz19 hB20 hE21
 refine SeqR.done (tn (CW.seq (CW.region (sd rfl (yl_fieldAddr Try.fd149_0 rfl rfl ?_)))))
 have q23 := Box.ex (Box.ex hB8 hE15) hE21
 refine sd rfl (yl_load1 Try.ty9 rfl rfl ((q23.cell 0).trans rfl) (sd rfl (yl_fieldAddr Try.fd54_0 rfl rfl (SeqR.u rfl rfl (yl_store (vs := [.string (bs (p_a.Key))]) Try.ty9 rfl rfl rfl rfl rfl rfl hB20 (Nat.le_of_ble_eq_true rfl) ?_)))))
 intro w24 hB25 hO26
 have hB25 : Box w24 b16 54 [.string (bs (p_a.Key)), .string (bs (([] : Str))), .bool (false)] := hB25
 have hO26z := hO26.size
 refine SeqR.done (tn (CW.seq (CW.region (sd rfl (yl_fieldAddr Try.fd149_1 rfl rfl ?_)))))
 have q27 := Box.only q23 hO26 (by omega)
 refine sd rfl (yl_load1 Try.ty9 rfl rfl ((q27.cell 1).trans rfl) (sd rfl (yl_fieldAddr Try.fd54_1 rfl rfl (SeqR.u rfl rfl (yl_store (vs := [.string (bs (p_a.Val))]) Try.ty9 rfl rfl rfl rfl rfl rfl hB25 (Nat.le_of_ble_eq_true rfl) ?_)))))
 intro w28 hB29 hO30
 have hB29 : Box w28 b16 54 [.string (bs (p_a.Key)), .string (bs (p_a.Val)), .bool (false)] := hB29
 have hO30z := hO30.size
 refine SeqR.done (tn (CW.seq (CW.region (sd rfl (yl_fieldAddr Try.fd149_2 rfl rfl (sd rfl (yl_load1 Try.ty4 rfl rfl (((Box.only q27 hO30 (by omega)).cell 2).trans rfl) (sd rfl (yl_fieldAddr Try.fd54_2 rfl rfl (SeqR.u rfl rfl (yl_store (vs := [.bool (p_a.Gone)]) Try.ty4 rfl rfl rfl rfl rfl rfl hB29 (Nat.le_of_ble_eq_true rfl) ?_)))))))))))
 intro w32 hB33 hO34
 have hB33 : Box w32 b16 54 [.string (bs (p_a.Key)), .string (bs (p_a.Val)), .bool (p_a.Gone)] := hB33
 have hO34z := hO34.size
 refine SeqR.done (tn (CW.seq (CW.region (sd rfl (yl_loadN (cs := [.string (bs (p_a.Key)), .string (bs (p_a.Val)), .bool (p_a.Gone)]) Try.ty54 rfl rfl (hB33.cells (n := 3) rfl) rfl (SeqR.u rfl rfl (yl_store (vs := [.string (bs (p_a.Key)), .string (bs (p_a.Val)), .bool (p_a.Gone)]) Try.ty54 rfl rfl rfl rfl rfl rfl (Box.only (Box.only (Box.only (Box.ex hB14 hE21) hO26 (by omega)) hO30 (by omega)) hO34 (by omega)) (Nat.le_of_ble_eq_true rfl) ?_)))))))
 intro w39 hB40 hO41
 have hB40 : Box w39 b10 54 [.string (bs (p_a.Key)), .string (bs (p_a.Val)), .bool (p_a.Gone)] := hB40
 have hO41z := hO41.size
 refine SeqR.done (tn (CW.ret (rr rfl (.cons ⟨_, rfl, run_loadN Try.ty54 (cs := [.string (bs (p_a.Key)), .string (bs (p_a.Val)), .bool (p_a.Gone)]) rfl (hB40.cells (n := 3) rfl)⟩ .nil) ?_)))
 have hM42 : p_a = (p_a) := (to_Write _).symm.trans <| by simp only [l_toWrite, cond_true, cond_false, loopE_done, loopE_ret]
 rw [hM42]
 exact ⟨rfl, (Below.only (Below.only (Below.only (Below.only (Ex.trans (Ex.trans (Ex.trans (Ex.refl w) hE9) hE15) hE21) hO26 (by omega)) hO30 (by omega)) hO34 (by omega)) hO41 (by omega))⟩
set_option maxRecDepth 100000 in
set_option maxHeartbeats 2000000 in
theorem c_l_toWriteS {A1 : Option Addr} {c1 : Nat} {w : World} (p_a : List DWrite) (h1 : RdS w (Iv 0 w.heap.size) (RF e_Write) 3 A1 p_a.length c1 p_a) (o2 : (okL ok_Write) p_a) : Cal Try.prog 43 #[.slice A1 p_a.length c1] w fun v w' => ∃ A_1 c_1 lo_1 hi_1, v = .slice A_1 p_a.length c_1 ∧ OwnL w' lo_1 hi_1 54 3 (RF e_Write) A_1 p_a.length c_1 p_a ∧ (w.heap.size ≤ lo_1 ∧ lo_1 ≤ hi_1 ∧ hi_1 ≤ w'.heap.size) ∧ Ex w w' := by
 have hol3 := o2.1
 refine Cal.of (vs := [.slice A1 p_a.length c1]) Try.func43 rfl Try.ntmps43 rfl (CW.seq (CW.region (sd rfl (yl_assign rfl rfl (SeqR.done (tn (CW.seq (CW.region (sd rfl (yl_move rfl rfl ?_))))))))))
 refine sd rfl (yl_len Try.un82 rfl rfl (sd rfl (yl_make (zs := [.string (bs (([] : Str))), .string (bs (([] : Str))), .bool (false)]) (n := p_a.length) Try.un89 Try.ty54 rfl rfl (Nat.le_of_ble_eq_true rfl) rfl rfl rfl (by first | omega | assumption | (simp only [IntKind.wrap_i64] at *; omega)) (by first | omega | assumption | (simp only [IntKind.wrap_i64] at *; omega)) ?_)))
 intro b4 w5 hs6 hz7 hB8 hE9
 have hO10 : OwnL w5 b4 (b4 + 1) 54 3 (RF e_Write) (some ⟨b4, 0, none⟩) p_a.length p_a.length (List.replicate p_a.length d_Write) := by have := OwnL.of_boxF (lo := b4) (hi := b4 + 1) (xs := (List.replicate p_a.length d_Write)) hB8 (Nat.le_refl _) (Nat.lt_succ_self _) (EncL.zerosF (enc := e_Write) (d := d_Write) rfl p_a.length) (by rw [List.length_replicate]; omega); rwa [List.length_replicate] at this
 refine sd rfl (yl_assign rfl rfl (SeqR.done (tn (CW.seq (CW.seq (CW.region (sd rfl (yl_assign rfl rfl (SeqR.done (tn ?_))))))))))
 refine CW.block (CW.loop (fun m23 L24 w25 => ∃ (k11 : Nat) (x22 : List DWrite), m23 = p_a.length - k11 ∧ k11 ≤ p_a.length ∧ w5.heap.size ≤ w25.heap.size ∧ lkp L24 0 = some (.slice A1 p_a.length c1) ∧ lkp L24 3 = some (.slice (some ⟨b4, 0, none⟩) p_a.length p_a.length) ∧ lkp L24 4 = some (.int .i64 ((k11 : Int))) ∧ RdS w25 (Iv 0 w.heap.size) (RF e_Write) 3 A1 p_a.length c1 p_a ∧ OwnL w25 b4 (b4 + 1) 54 3 (RF e_Write) (some ⟨b4, 0, none⟩) p_a.length p_a.length x22 ∧ Ex w w25 ∧ loopM (B_l_toWriteS_0 p_a) (p_a.length - k11) k11 (x22) = loopM (B_l_toWriteS_0 p_a) (p_a.length - 0) 0 ((List.replicate p_a.length d_Write))) (p_a.length - 0) ?_ ?_)
 ·exact ⟨0, (List.replicate p_a.length d_Write), rfl, (by omega), Nat.le_refl _, rfl, rfl, rfl, (RdS.ex good_Write h1 hE9), hO10, (Ex.trans (Ex.refl w) hE9), rfl⟩
 ·rintro m28 L29 w30 ⟨k11, x22, rfl, hk31, hsz33, hl34, hl35, hl36, hf37, hf38, hf39, hI32⟩
  refine CW.sub (Sub.cons hl34 (Sub.cons hl35 (Sub.cons hl36 (Sub.nil _)))) ?_
  have hf39z := Ex.size hf39
  have hbg40 := RdS.big hf37
  rcases Nat.lt_or_ge k11 p_a.length with hlt41 | hlt41
  ·refine CW.seq (CW.seq (CW.region (sd rfl (yl_move rfl rfl (sd rfl (yl_move rfl rfl (sd rfl (yl_len Try.un82 rfl rfl (sd rfl (yl_lss rfl rfl rfl (SeqR.done (tn ?_))))))))))))
   refine CW.cond_t rfl (lt_t hlt41) (CW.skip (tn (CW.seq (CW.block (CW.region (sd rfl (yl_move rfl rfl (sd rfl (yl_move rfl rfl (sd rfl (yl_move rfl rfl ?_)))))))))))
   refine sd rfl (yl_move rfl rfl ?_)
   obtain ⟨eb42, eo42, ec42, eA42, eS42, ebl42, el42, eR42, eC42⟩ := RdS.atD hf37 d_Write (i := k11) (by first | omega | assumption)
   obtain rfl := eR42
   have eC42 : Cells w30 eb42 (eo42 + k11 * 3) [.string (bs ((p_a.getD k11 d_Write).Key)), .string (bs ((p_a.getD k11 d_Write).Val)), .bool ((p_a.getD k11 d_Write).Gone)] := eC42
   refine sd rfl (yl_indexAddrN Try.un82 Try.ty149 rfl rfl rfl eA42 (by first | omega | assumption | (simp only [IntKind.wrap_i64] at *; omega)) (sd rfl (yl_loadN (cs := [.string (bs ((p_a.getD k11 d_Write).Key)), .string (bs ((p_a.getD k11 d_Write).Val)), .bool ((p_a.getD k11 d_Write).Gone)]) Try.ty149 rfl rfl eC42 rfl (sd rfl (yl_call Try.en103 rfl (opvs_cons rfl opvs_nil) (Cal.mono (c_l_toWrite (p_a.getD k11 d_Write) (okL.getD o2 ok_d_Write _)) ?_))))))
   rintro v44 w43 ⟨rfl, hE45⟩
   have hE45z := Ex.size hE45
   have q47 := OwnL.ex good_Write hf38 hE45
   obtain ⟨eb48, eo48, ec48, eA48, eS48, ebl48, el48, eR48, eC48⟩ := RdS.atD (OwnL.rd good_Write q47) d_Write (i := k11) (by first | omega | assumption)
   obtain rfl := eR48
   have eC48 : Cells w43 eb48 (eo48 + k11 * 3) [.string (bs ((x22.getD k11 d_Write).Key)), .string (bs ((x22.getD k11 d_Write).Val)), .bool ((x22.getD k11 d_Write).Gone)] := eC48
   refine sd rfl (yl_indexAddrN Try.un89 Try.ty54 rfl rfl rfl eA48 (by first | omega | assumption | (simp only [IntKind.wrap_i64] at *; omega)) ?_)
   have hrg49 := OwnL.rng q47 (i := k11) (by first | omega | assumption | (simp only [IntKind.wrap_i64] at *; omega)) eb48 (by rw [eA48]; rfl)
   refine SeqR.u rfl rfl (yl_storeF (off := eo48) (i := k11) (d := 0) (dx := d_Write) (x' := (p_a.getD k11 d_Write)) (vs := [.string (bs ((p_a.getD k11 d_Write).Key)), .string (bs ((p_a.getD k11 d_Write).Val)), .bool ((p_a.getD k11 d_Write).Gone)]) Try.ty54 rfl q47 eA48 rfl rfl rfl rfl rfl (by first | omega | assumption | (simp only [IntKind.wrap_i64] at *; omega)) (Nat.le_of_ble_eq_true rfl) rfl rfl ?_)
   intro w50 hB51 hO52
   have hO52z := hO52.size
   refine SeqR.done (bn (tn (CW.region (sd rfl (yl_move rfl rfl (sd rfl (yl_inc rfl rfl rfl (by omega) (sd rfl (yl_assign rfl rfl (SeqR.done (tn ?_)))))))))))
   have hB53 : B_l_toWriteS_0 p_a k11 (x22) = .cont ((x22.set k11 (p_a.getD k11 d_Write))) := by simp only [B_l_toWriteS_0, cond_true, cond_false, loopE_done, loopE_ret]
   exact ⟨p_a.length - (k11 + 1), by omega, k11 + 1, (x22.set k11 (p_a.getD k11 d_Write)), rfl, hlt41, (by omega), rfl, rfl, rfl, (RdS.only good_Write (RdS.ex good_Write hf37 hE45) hO52 (by simp only [Iv]; omega)), hB51, (Below.only (Ex.trans hf39 hE45) hO52 (by omega)), (loopM.cont hlt41 hB53).symm.trans hI32⟩
  ·refine CW.seq (CW.seq (CW.region (sd rfl (yl_move rfl rfl (sd rfl (yl_move rfl rfl (sd rfl (yl_len Try.un82 rfl rfl (sd rfl (yl_lss rfl rfl rfl (SeqR.done (tn ?_))))))))))))
   refine CW.cond_f rfl (lt_f hlt41) (CW.exit (tx (tx ?_)))
   have hL58 : loopM (B_l_toWriteS_0 p_a) (p_a.length - 0) 0 ((List.replicate p_a.length d_Write)) = .done (x22) := hI32.symm.trans (loopM.stop hlt41)
   refine bx (tn (CW.seq (CW.region (sd rfl (yl_move rfl rfl (sd rfl (yl_assign rfl rfl (SeqR.done (tn (CW.ret ?_))))))))))
   refine rr rfl (.cons rfl .nil) ?_
   have hM59 : p_a = (x22) := (to_WriteS _).symm.trans <| by simp only [l_toWriteS, hL58, cond_true, cond_false, loopE_done, loopE_ret]
   subst hM59
   exact ⟨(some ⟨b4, 0, none⟩), p_a.length, b4, (b4 + 1), rfl, hf38, (by omega), hf39⟩
set_option maxRecDepth 100000 in
set_option maxHeartbeats 2000000 in
theorem c_l_toStringS {A1 : Option Addr} {c1 : Nat} {w : World} (p_a : List Str) (h1 : RdS w (Iv 0 w.heap.size) (RF e_Str) 1 A1 p_a.length c1 p_a) (o2 : (okL okS) p_a) : Cal Try.prog 73 #[.slice A1 p_a.length c1] w fun v w' => ∃ A_1 c_1 lo_1 hi_1, v = .slice A_1 p_a.length c_1 ∧ OwnL w' lo_1 hi_1 9 1 (RF e_Str) A_1 p_a.length c_1 p_a ∧ (w.heap.size ≤ lo_1 ∧ lo_1 ≤ hi_1 ∧ hi_1 ≤ w'.heap.size) ∧ Ex w w' := by
 have hol3 := o2.1
 refine Cal.of (vs := [.slice A1 p_a.length c1]) Try.func73 rfl Try.ntmps73 rfl (CW.seq (CW.region (sd rfl (yl_assign rfl rfl (SeqR.done (tn (CW.seq (CW.region (sd rfl (yl_move rfl rfl ?_))))))))))
 refine sd rfl (yl_len Try.un45 rfl rfl (sd rfl (yl_make (zs := [.string (bs (([] : Str)))]) (n := p_a.length) Try.un45 Try.ty9 rfl rfl (Nat.le_of_ble_eq_true rfl) rfl rfl rfl (by first | omega | assumption | (simp only [IntKind.wrap_i64] at *; omega)) (by first | omega | assumption | (simp only [IntKind.wrap_i64] at *; omega)) ?_)))
 intro b4 w5 hs6 hz7 hB8 hE9
 have hO10 : OwnL w5 b4 (b4 + 1) 9 1 (RF e_Str) (some ⟨b4, 0, none⟩) p_a.length p_a.length (List.replicate p_a.length d_Str) := by have := OwnL.of_boxF (lo := b4) (hi := b4 + 1) (xs := (List.replicate p_a.length d_Str)) hB8 (Nat.le_refl _) (Nat.lt_succ_self _) (EncL.zerosF (enc := e_Str) (d := d_Str) rfl p_a.length) (by rw [List.length_replicate]; omega); rwa [List.length_replicate] at this
 refine sd rfl (yl_assign rfl rfl (SeqR.done (tn (CW.seq (CW.seq (CW.region (sd rfl (yl_assign rfl rfl (SeqR.done (tn ?_))))))))))
 refine CW.block (CW.loop (fun m20 L21 w22 => ∃ (k11 : Nat) (x19 : List Str), m20 = p_a.length - k11 ∧ k11 ≤ p_a.length ∧ w5.heap.size ≤ w22.heap.size ∧ lkp L21 0 = some (.slice A1 p_a.length c1) ∧ lkp L21 3 = some (.slice (some ⟨b4, 0, none⟩) p_a.length p_a.length) ∧ lkp L21 4 = some (.int .i64 ((k11 : Int))) ∧ RdS w22 (Iv 0 w.heap.size) (RF e_Str) 1 A1 p_a.length c1 p_a ∧ OwnL w22 b4 (b4 + 1) 9 1 (RF e_Str) (some ⟨b4, 0, none⟩) p_a.length p_a.length x19 ∧ Ex w w22 ∧ loopM (B_l_toStringS_0 p_a) (p_a.length - k11) k11 (x19) = loopM (B_l_toStringS_0 p_a) (p_a.length - 0) 0 ((List.replicate p_a.length d_Str))) (p_a.length - 0) ?_ ?_)
 ·exact ⟨0, (List.replicate p_a.length d_Str), rfl, (by omega), Nat.le_refl _, rfl, rfl, rfl, (RdS.ex good_Str h1 hE9), hO10, (Ex.trans (Ex.refl w) hE9), rfl⟩
 ·rintro m25 L26 w27 ⟨k11, x19, rfl, hk28, hsz30, hl31, hl32, hl33, hf34, hf35, hf36, hI29⟩
  refine CW.sub (Sub.cons hl31 (Sub.cons hl32 (Sub.cons hl33 (Sub.nil _)))) ?_
  have hf36z := Ex.size hf36
  have hbg37 := RdS.big hf34
  rcases Nat.lt_or_ge k11 p_a.length with hlt38 | hlt38
  ·refine CW.seq (CW.seq (CW.region (sd rfl (yl_move rfl rfl (sd rfl (yl_move rfl rfl (sd rfl (yl_len Try.un45 rfl rfl (sd rfl (yl_lss rfl rfl rfl (SeqR.done (tn ?_))))))))))))
   refine CW.cond_t rfl (lt_t hlt38) (CW.skip (tn (CW.seq (CW.block (CW.region (sd rfl (yl_move rfl rfl (sd rfl (yl_move rfl rfl (sd rfl (yl_move rfl rfl ?_)))))))))))
   refine sd rfl (yl_move rfl rfl ?_)
   obtain ⟨eb39, eo39, ec39, eA39, eS39, ebl39, el39, eR39, eC39⟩ := RdS.atD hf34 d_Str (i := k11) (by first | omega | assumption)
   obtain rfl := eR39
   have eC39 : Cells w27 eb39 (eo39 + k11 * 1) [.string (bs ((p_a.getD k11 d_Str)))] := eC39
   refine sd rfl (yl_indexAddrN Try.un45 Try.ty9 rfl rfl rfl eA39 (by first | omega | assumption | (simp only [IntKind.wrap_i64] at *; omega)) (sd rfl (yl_load1 Try.ty9 rfl rfl (eC39 0 _ rfl) ?_)))
   obtain ⟨eb41, eo41, ec41, eA41, eS41, ebl41, el41, eR41, eC41⟩ := RdS.atD (OwnL.rd good_Str hf35) d_Str (i := k11) (by first | omega | assumption)
   obtain rfl := eR41
   have eC41 : Cells w27 eb41 (eo41 + k11 * 1) [.string (bs ((x19.getD k11 d_Str)))] := eC41
   refine sd rfl (yl_indexAddrN Try.un45 Try.ty9 rfl rfl rfl eA41 (by first | omega | assumption | (simp only [IntKind.wrap_i64] at *; omega)) ?_)
   have hrg42 := OwnL.rng hf35 (i := k11) (by first | omega | assumption | (simp only [IntKind.wrap_i64] at *; omega)) eb41 (by rw [eA41]; rfl)
   refine SeqR.u rfl rfl (yl_storeF (off := eo41) (i := k11) (d := 0) (dx := d_Str) (x' := (p_a.getD k11 d_Str)) (vs := [.string (bs ((p_a.getD k11 d_Str)))]) Try.ty9 rfl hf35 eA41 rfl rfl rfl rfl rfl (by first | omega | assumption | (simp only [IntKind.wrap_i64] at *; omega)) (Nat.le_of_ble_eq_true rfl) rfl rfl ?_)
   intro w43 hB44 hO45
   have hO45z := hO45.size
   refine SeqR.done (bn (tn (CW.region (sd rfl (yl_move rfl rfl (sd rfl (yl_inc rfl rfl rfl (by omega) (sd rfl (yl_assign rfl rfl (SeqR.done (tn ?_)))))))))))
   have hB46 : B_l_toStringS_0 p_a k11 (x19) = .cont ((x19.set k11 (p_a.getD k11 d_Str))) := by simp only [B_l_toStringS_0, cond_true, cond_false, loopE_done, loopE_ret]
   exact ⟨p_a.length - (k11 + 1), by omega, k11 + 1, (x19.set k11 (p_a.getD k11 d_Str)), rfl, hlt38, (by omega), rfl, rfl, rfl, (RdS.only good_Str hf34 hO45 (by simp only [Iv]; omega)), hB44, (Below.only hf36 hO45 (by omega)), (loopM.cont hlt38 hB46).symm.trans hI29⟩
  ·refine CW.seq (CW.seq (CW.region (sd rfl (yl_move rfl rfl (sd rfl (yl_move rfl rfl (sd rfl (yl_len Try.un45 rfl rfl (sd rfl (yl_lss rfl rfl rfl (SeqR.done (tn ?_))))))))))))
   refine CW.cond_f rfl (lt_f hlt38) (CW.exit (tx (tx ?_)))
   have hL49 : loopM (B_l_toStringS_0 p_a) (p_a.length - 0) 0 ((List.replicate p_a.length d_Str)) = .done (x19) := hI29.symm.trans (loopM.stop hlt38)
   refine bx (tn (CW.seq (CW.region (sd rfl (yl_move rfl rfl (sd rfl (yl_assign rfl rfl (SeqR.done (tn (CW.ret ?_))))))))))
   refine rr rfl (.cons rfl .nil) ?_
   have hM50 : p_a = (x19) := (to_StringS _).symm.trans <| by simp only [l_toStringS, hL49, cond_true, cond_false, loopE_done, loopE_ret]
   subst hM50
   exact ⟨(some ⟨b4, 0, none⟩), p_a.length, b4, (b4 + 1), rfl, hf35, (by omega), hf36⟩
set_option maxRecDepth 100000 in
set_option maxHeartbeats 2000000 in
theorem c_l_toIdx {w : World} (p_a : DIdx) (o1 : ok_Idx p_a) : Cal Try.prog 134 #[.agg #[.string (bs (p_a.Name)), .int .i64 (p_a.Col), .int .i64 (p_a.Stage)]] w fun v w' => v = .agg #[.string (bs (p_a.Name)), .int .i64 (p_a.Col), .int .i64 (p_a.Stage)] ∧ Ex w w' := by
 have hol2 : p_a.Name.length ≤ 1073741824 := o1
 refine Cal.of (vs := [.agg #[.string (bs (p_a.Name)), .int .i64 (p_a.Col), .int .i64 (p_a.Stage)]]) Try.func134 rfl Try.ntmps134 rfl (CW.seq (CW.region (sd rfl (yl_box (cs := [.string (bs (p_a.Name)), .int .i64 (p_a.Col), .int .i64 (p_a.Stage)]) rfl rfl rfl ?_))))
 intro b3 w4 hs5 hz6 hB7 hE8
 refine sd rfl (yl_alloc Try.ty177 (cs := [.string (bs (([] : Str))), .int .i64 (0), .int .i64 (0)]) rfl rfl ?_)
 intro b9 w10 hs11 hz12 hB13 hE14
 refine SeqR.done (tn (CW.seq (CW.region (sd rfl (yl_alloc Try.ty177 (cs := [.string (bs (([] : Str))), .int .i64 (0), .int .i64 (0)]) rfl rfl ?_)))))
 intro b15 w16 hs17 hz18 hB19 hE20
 refine SeqR.done (tn (CW.seq (CW.region (sd rfl (yl_fieldAddr Try.fd174_0 rfl rfl ?_)))))
 have q22 := Box.ex (Box.ex hB7 hE14) hE20
 refine sd rfl (yl_load1 Try.ty9 rfl rfl ((q22.cell 0).trans rfl) (sd rfl (yl_fieldAddr Try.fd177_0 rfl rfl (SeqR.u rfl rfl (yl_store (vs := [.string (bs (p_a.Name))]) Try.ty9 rfl rfl rfl rfl rfl rfl hB19 (Nat.le_of_ble_eq_true rfl) ?_)))))
 intro w23 hB24 hO25
 have hB24 : Box w23 b15 177 [.string (bs (p_a.Name)), .int .i64 (0), .int .i64 (0)] := hB24
 have hO25z := hO25.size
 refine SeqR.done (tn (CW.seq (CW.region (sd rfl (yl_fieldAddr Try.fd174_1 rfl rfl ?_)))))
 have q26 := Box.only q22 hO25 (by omega)
 refine sd rfl (yl_load1 Try.ty3 rfl rfl ((q26.cell 1).trans rfl) (sd rfl (yl_fieldAddr Try.fd177_1 rfl rfl (SeqR.u rfl rfl (yl_store (vs := [.int .i64 (p_a.Col)]) Try.ty3 rfl rfl rfl rfl rfl rfl hB24 (Nat.le_of_ble_eq_true rfl) ?_)))))
 intro w27 hB28 hO29
 have hB28 : Box w27 b15 177 [.string (bs (p_a.Name)), .int .i64 (p_a.Col), .int .i64 (0)] := hB28
 have hO29z := hO29.size
 refine SeqR.done (tn (CW.seq (CW.region (sd rfl (yl_fieldAddr Try.fd174_2 rfl rfl (sd rfl (yl_load1 Try.ty3 rfl rfl (((Box.only q26 hO29 (by omega)).cell 2).trans rfl) (sd rfl (yl_fieldAddr Try.fd177_2 rfl rfl (SeqR.u rfl rfl (yl_store (vs := [.int .i64 (p_a.Stage)]) Try.ty3 rfl rfl rfl rfl rfl rfl hB28 (Nat.le_of_ble_eq_true rfl) ?_)))))))))))
 intro w31 hB32 hO33
 have hB32 : Box w31 b15 177 [.string (bs (p_a.Name)), .int .i64 (p_a.Col), .int .i64 (p_a.Stage)] := hB32
 have hO33z := hO33.size
 refine SeqR.done (tn (CW.seq (CW.region (sd rfl (yl_loadN (cs := [.string (bs (p_a.Name)), .int .i64 (p_a.Col), .int .i64 (p_a.Stage)]) Try.ty177 rfl rfl (hB32.cells (n := 3) rfl) rfl (SeqR.u rfl rfl (yl_store (vs := [.string (bs (p_a.Name)), .int .i64 (p_a.Col), .int .i64 (p_a.Stage)]) Try.ty177 rfl rfl rfl rfl rfl rfl (Box.only (Box.only (Box.only (Box.ex hB13 hE20) hO25 (by omega)) hO29 (by omega)) hO33 (by omega)) (Nat.le_of_ble_eq_true rfl) ?_)))))))
 intro w38 hB39 hO40
 have hB39 : Box w38 b9 177 [.string (bs (p_a.Name)), .int .i64 (p_a.Col), .int .i64 (p_a.Stage)] := hB39
 have hO40z := hO40.size
 refine SeqR.done (tn (CW.ret (rr rfl (.cons ⟨_, rfl, run_loadN Try.ty177 (cs := [.string (bs (p_a.Name)), .int .i64 (p_a.Col), .int .i64 (p_a.Stage)]) rfl (hB39.cells (n := 3) rfl)⟩ .nil) ?_)))
 have hM41 : p_a = (p_a) := (to_Idx _).symm.trans <| by simp only [l_toIdx, cond_true, cond_false, loopE_done, loopE_ret]
 rw [hM41]
 exact ⟨rfl, (Below.only (Below.only (Below.only (Below.only (Ex.trans (Ex.trans (Ex.trans (Ex.refl w) hE8) hE14) hE20) hO25 (by omega)) hO29 (by omega)) hO33 (by omega)) hO40 (by omega))⟩
set_option maxRecDepth 100000 in
set_option maxHeartbeats 2000000 in
theorem c_l_toIdxS {A1 : Option Addr} {c1 : Nat} {w : World} (p_a : List DIdx) (h1 : RdS w (Iv 0 w.heap.size) (RF e_Idx) 3 A1 p_a.length c1 p_a) (o2 : (okL ok_Idx) p_a) : Cal Try.prog 74 #[.slice A1 p_a.length c1] w fun v w' => ∃ A_1 c_1 lo_1 hi_1, v = .slice A_1 p_a.length c_1 ∧ OwnL w' lo_1 hi_1 177 3 (RF e_Idx) A_1 p_a.length c_1 p_a ∧ (w.heap.size ≤ lo_1 ∧ lo_1 ≤ hi_1 ∧ hi_1 ≤ w'.heap.size) ∧ Ex w w' := by
 have hol3 := o2.1
 refine Cal.of (vs := [.slice A1 p_a.length c1]) Try.func74 rfl Try.ntmps74 rfl (CW.seq (CW.region (sd rfl (yl_assign rfl rfl (SeqR.done (tn (CW.seq (CW.region (sd rfl (yl_move rfl rfl ?_))))))))))
 refine sd rfl (yl_len Try.un46 rfl rfl (sd rfl (yl_make (zs := [.string (bs (([] : Str))), .int .i64 (0), .int .i64 (0)]) (n := p_a.length) Try.un57 Try.ty177 rfl rfl (Nat.le_of_ble_eq_true rfl) rfl rfl rfl (by first | omega | assumption | (simp only [IntKind.wrap_i64] at *; omega)) (by first | omega | assumption | (simp only [IntKind.wrap_i64] at *; omega)) ?_)))
 intro b4 w5 hs6 hz7 hB8 hE9
 have hO10 : OwnL w5 b4 (b4 + 1) 177 3 (RF e_Idx) (some ⟨b4, 0, none⟩) p_a.length p_a.length (List.replicate p_a.length d_Idx) := by have := OwnL.of_boxF (lo := b4) (hi := b4 + 1) (xs := (List.replicate p_a.length d_Idx)) hB8 (Nat.le_refl _) (Nat.lt_succ_self _) (EncL.zerosF (enc := e_Idx) (d := d_Idx) rfl p_a.length) (by rw [List.length_replicate]; omega); rwa [List.length_replicate] at this
 refine sd rfl (yl_assign rfl rfl (SeqR.done (tn (CW.seq (CW.seq (CW.region (sd rfl (yl_assign rfl rfl (SeqR.done (tn ?_))))))))))
 refine CW.block (CW.loop (fun m23 L24 w25 => ∃ (k11 : Nat) (x22 : List DIdx), m23 = p_a.length - k11 ∧ k11 ≤ p_a.length ∧ w5.heap.size ≤ w25.heap.size ∧ lkp L24 0 = some (.slice A1 p_a.length c1) ∧ lkp L24 3 = some (.slice (some ⟨b4, 0, none⟩) p_a.length p_a.length) ∧ lkp L24 4 = some (.int .i64 ((k11 : Int))) ∧ RdS w25 (Iv 0 w.heap.size) (RF e_Idx) 3 A1 p_a.length c1 p_a ∧ OwnL w25 b4 (b4 + 1) 177 3 (RF e_Idx) (some ⟨b4, 0, none⟩) p_a.length p_a.length x22 ∧ Ex w w25 ∧ loopM (B_l_toIdxS_0 p_a) (p_a.length - k11) k11 (x22) = loopM (B_l_toIdxS_0 p_a) (p_a.length - 0) 0 ((List.replicate p_a.length d_Idx))) (p_a.length - 0) ?_ ?_)
 ·exact ⟨0, (List.replicate p_a.length d_Idx), rfl, (by omega), Nat.le_refl _, rfl, rfl, rfl, (RdS.ex good_Idx h1 hE9), hO10, (Ex.trans (Ex.refl w) hE9), rfl⟩
 ·rintro m28 L29 w30 ⟨k11, x22, rfl, hk31, hsz33, hl34, hl35, hl36, hf37, hf38, hf39, hI32⟩
  refine CW.sub (Sub.cons hl34 (Sub.cons hl35 (Sub.cons hl36 (Sub.nil _)))) ?_
  have hf39z := Ex.size hf39
  have hbg40 := RdS.big hf37
  rcases Nat.lt_or_ge k11 p_a.length with hlt41 | hlt41
  ·refine CW.seq (CW.seq (CW.region (sd rfl (yl_move rfl rfl (sd rfl (yl_move rfl rfl (sd rfl (yl_len Try.un46 rfl rfl (sd rfl (yl_lss rfl rfl rfl (SeqR.done (tn ?_))))))))))))
   refine CW.cond_t rfl (lt_t hlt41) (CW.skip (tn (CW.seq (CW.block (CW.region (sd rfl (yl_move rfl rfl (sd rfl (yl_move rfl rfl (sd rfl (yl_move rfl rfl ?_)))))))))))
   refine sd rfl (yl_move rfl rfl ?_)
   obtain ⟨eb42, eo42, ec42, eA42, eS42, ebl42, el42, eR42, eC42⟩ := RdS.atD hf37 d_Idx (i := k11) (by first | omega | assumption)
   obtain rfl := eR42
   have eC42 : Cells w30 eb42 (eo42 + k11 * 3) [.string (bs ((p_a.getD k11 d_Idx).Name)), .int .i64 ((p_a.getD k11 d_Idx).Col), .int .i64 ((p_a.getD k11 d_Idx).Stage)] := eC42
   refine sd rfl (yl_indexAddrN Try.un46 Try.ty174 rfl rfl rfl eA42 (by first | omega | assumption | (simp only [IntKind.wrap_i64] at *; omega)) (sd rfl (yl_loadN (cs := [.string (bs ((p_a.getD k11 d_Idx).Name)), .int .i64 ((p_a.getD k11 d_Idx).Col), .int .i64 ((p_a.getD k11 d_Idx).Stage)]) Try.ty174 rfl rfl eC42 rfl (sd rfl (yl_call Try.en134 rfl (opvs_cons rfl opvs_nil) (Cal.mono (c_l_toIdx (p_a.getD k11 d_Idx) (okL.getD o2 ok_d_Idx _)) ?_))))))
   rintro v44 w43 ⟨rfl, hE45⟩
   have hE45z := Ex.size hE45
   have q47 := OwnL.ex good_Idx hf38 hE45
   obtain ⟨eb48, eo48, ec48, eA48, eS48, ebl48, el48, eR48, eC48⟩ := RdS.atD (OwnL.rd good_Idx q47) d_Idx (i := k11) (by first | omega | assumption)
   obtain rfl := eR48
   have eC48 : Cells w43 eb48 (eo48 + k11 * 3) [.string (bs ((x22.getD k11 d_Idx).Name)), .int .i64 ((x22.getD k11 d_Idx).Col), .int .i64 ((x22.getD k11 d_Idx).Stage)] := eC48
   refine sd rfl (yl_indexAddrN Try.un57 Try.ty177 rfl rfl rfl eA48 (by first | omega | assumption | (simp only [IntKind.wrap_i64] at *; omega)) ?_)
   have hrg49 := OwnL.rng q47 (i := k11) (by first | omega | assumption | (simp only [IntKind.wrap_i64] at *; omega)) eb48 (by rw [eA48]; rfl)
   refine SeqR.u rfl rfl (yl_storeF (off := eo48) (i := k11) (d := 0) (dx := d_Idx) (x' := (p_a.getD k11 d_Idx)) (vs := [.string (bs ((p_a.getD k11 d_Idx).Name)), .int .i64 ((p_a.getD k11 d_Idx).Col), .int .i64 ((p_a.getD k11 d_Idx).Stage)]) Try.ty177 rfl q47 eA48 rfl rfl rfl rfl rfl (by first | omega | assumption | (simp only [IntKind.wrap_i64] at *; omega)) (Nat.le_of_ble_eq_true rfl) rfl rfl ?_)
   intro w50 hB51 hO52
   have hO52z := hO52.size
   refine SeqR.done (bn (tn (CW.region (sd rfl (yl_move rfl rfl (sd rfl (yl_inc rfl rfl rfl (by omega) (sd rfl (yl_assign rfl rfl (SeqR.done (tn ?_)))))))))))
   have hB53 : B_l_toIdxS_0 p_a k11 (x22) = .cont ((x22.set k11 (p_a.getD k11 d_Idx))) := by simp only [B_l_toIdxS_0, cond_true, cond_false, loopE_done, loopE_ret]
   exact ⟨p_a.length - (k11 + 1), by omega, k11 + 1, (x22.set k11 (p_a.getD k11 d_Idx)), rfl, hlt41, (by omega), rfl, rfl, rfl, (RdS.only good_Idx (RdS.ex good_Idx hf37 hE45) hO52 (by simp only [Iv]; omega)), hB51, (Below.only (Ex.trans hf39 hE45) hO52 (by omega)), (loopM.cont hlt41 hB53).symm.trans hI32⟩
  ·refine CW.seq (CW.seq (CW.region (sd rfl (yl_move rfl rfl (sd rfl (yl_move rfl rfl (sd rfl (yl_len Try.un46 rfl rfl (sd rfl (yl_lss rfl rfl rfl (SeqR.done (tn ?_))))))))))))
   refine CW.cond_f rfl (lt_f hlt41) (CW.exit (tx (tx ?_)))
   have hL58 : loopM (B_l_toIdxS_0 p_a) (p_a.length - 0) 0 ((List.replicate p_a.length d_Idx)) = .done (x22) := hI32.symm.trans (loopM.stop hlt41)
   refine bx (tn (CW.seq (CW.region (sd rfl (yl_move rfl rfl (sd rfl (yl_assign rfl rfl (SeqR.done (tn (CW.ret ?_))))))))))
   refine rr rfl (.cons rfl .nil) ?_
   have hM59 : p_a = (x22) := (to_IdxS _).symm.trans <| by simp only [l_toIdxS, hL58, cond_true, cond_false, loopE_done, loopE_ret]
   subst hM59
   exact ⟨(some ⟨b4, 0, none⟩), p_a.length, b4, (b4 + 1), rfl, hf38, (by omega), hf39⟩
set_option maxRecDepth 100000 in
set_option maxHeartbeats 2000000 in
theorem c_l_toTable {A1 : Option Addr} {c1 : Nat} {A2 : Option Addr} {c2 : Nat} {w : World} (p_a : DTable) (h1 : RdS w (Iv 0 w.heap.size) (RF e_Str) 1 A1 p_a.Cols.length c1 p_a.Cols) (h2 : RdS w (Iv 0 w.heap.size) (RF e_Idx) 3 A2 p_a.Idxs.length c2 p_a.Idxs) (o3 : ok_Table p_a) : Cal Try.prog 23 #[.agg #[.string (bs (p_a.Name)), .slice A1 p_a.Cols.length c1, .slice A2 p_a.Idxs.length c2]] w fun v w' => ∃ A_1 c_1 lo_1 hi_1 A_2 c_2 lo_2 hi_2, v = .agg #[.string (bs (p_a.Name)), .slice A_1 p_a.Cols.length c_1, .slice A_2 p_a.Idxs.length c_2] ∧ OwnL w' lo_1 hi_1 9 1 (RF e_Str) A_1 p_a.Cols.length c_1 p_a.Cols ∧ OwnL w' lo_2 hi_2 177 3 (RF e_Idx) A_2 p_a.Idxs.length c_2 p_a.Idxs ∧ (w.heap.size ≤ lo_1 ∧ lo_1 ≤ hi_1 ∧ hi_1 ≤ w'.heap.size) ∧ (w.heap.size ≤ lo_2 ∧ lo_2 ≤ hi_2 ∧ hi_2 ≤ w'.heap.size) ∧ (hi_1 ≤ lo_2 ∨ hi_2 ≤ lo_1) ∧ Ex w w' := by
 have hol4 : p_a.Name.length ≤ 1073741824 := o3.1
 have hol5 := o3.2.1.1
 have hol6 := o3.2.2.1
 refine Cal.of (vs := [.agg #[.string (bs (p_a.Name)), .slice A1 p_a.Cols.length c1, .slice A2 p_a.Idxs.length c2]]) Try.func23 rfl Try.ntmps23 rfl (CW.seq (CW.region (sd rfl (yl_box (cs := [.string (bs (p_a.Name)), .slice A1 p_a.Cols.length c1, .slice A2 p_a.Idxs.length c2]) rfl rfl rfl ?_))))
 intro b7 w8 hs9 hz10 hB11 hE12
 refine sd rfl (yl_alloc Try.ty59 (cs := [.string (bs (([] : Str))), .slice none 0 0, .slice none 0 0]) rfl rfl ?_)
 intro b13 w14 hs15 hz16 hB17 hE18
 refine SeqR.done (tn (CW.seq (CW.region (sd rfl (yl_alloc Try.ty59 (cs := [.string (bs (([] : Str))), .slice none 0 0, .slice none 0 0]) rfl rfl ?_)))))
 intro b19 w20 hs21 hz22 hB23 hE24
 refine SeqR.done (tn (CW.seq (CW.region (sd rfl (yl_fieldAddr Try.fd48_0 rfl rfl ?_)))))
 have q26 := Box.ex (Box.ex hB11 hE18) hE24
 refine sd rfl (yl_load1 Try.ty9 rfl rfl ((q26.cell 0).trans rfl) (sd rfl (yl_fieldAddr Try.fd59_0 rfl rfl (SeqR.u rfl rfl (yl_store (vs := [.string (bs (p_a.Name))]) Try.ty9 rfl rfl rfl rfl rfl rfl hB23 (Nat.le_of_ble_eq_true rfl) ?_)))))
 intro w27 hB28 hO29
 have hB28 : Box w27 b19 59 [.string (bs (p_a.Name)), .slice none 0 0, .slice none 0 0] := hB28
 have hO29z := hO29.size
 refine SeqR.done (tn (CW.seq (CW.region (sd rfl (yl_fieldAddr Try.fd48_1 rfl rfl ?_)))))
 have q30 := Box.only q26 hO29 (by omega)
 refine sd rfl (yl_load1 Try.ty45 rfl rfl ((q30.cell 1).trans rfl) (sd rfl (yl_call Try.en73 rfl (opvs_cons rfl opvs_nil) (Cal.mono (c_l_toStringS p_a.Cols (RdS.up (RdS.only good_Str (RdS.ex good_Str (RdS.ex good_Str (RdS.ex good_Str h1 hE12) hE18) hE24) hO29 (by simp only [Iv]; omega)) good_Str) o3.2.1) ?_))))
 rintro v37 w35 ⟨A36, c36, lo36, hi36, rfl, h36, hrn39, hE38⟩
 have hE38z := Ex.size hE38
 refine sd rfl (yl_fieldAddr Try.fd59_1 rfl rfl (SeqR.u rfl rfl (yl_store (vs := [.slice A36 p_a.Cols.length c36]) Try.ty45 rfl rfl rfl rfl rfl rfl (Box.ex hB28 hE38) (Nat.le_of_ble_eq_true rfl) ?_)))
 intro w41 hB42 hO43
 have hB42 : Box w41 b19 59 [.string (bs (p_a.Name)), .slice A36 p_a.Cols.length c36, .slice none 0 0] := hB42
 have hO43z := hO43.size
 refine SeqR.done (tn (CW.seq (CW.region (sd rfl (yl_fieldAddr Try.fd48_2 rfl rfl (sd rfl (yl_load1 Try.ty46 rfl rfl (((Box.only (Box.ex q30 hE38) hO43 (by omega)).cell 2).trans rfl) (sd rfl (yl_call Try.en74 rfl (opvs_cons rfl opvs_nil) (Cal.mono (c_l_toIdxS p_a.Idxs (RdS.up (RdS.only good_Idx (RdS.ex good_Idx (RdS.only good_Idx (RdS.ex good_Idx (RdS.ex good_Idx (RdS.ex good_Idx h2 hE12) hE18) hE24) hO29 (by simp only [Iv]; omega)) hE38) hO43 (by simp only [Iv]; omega)) good_Idx) o3.2.2) ?_))))))))))
 rintro v54 w52 ⟨A53, c53, lo53, hi53, rfl, h53, hrn56, hE55⟩
 have hE55z := Ex.size hE55
 refine sd rfl (yl_fieldAddr Try.fd59_2 rfl rfl (SeqR.u rfl rfl (yl_store (vs := [.slice A53 p_a.Idxs.length c53]) Try.ty57 rfl rfl rfl rfl rfl rfl (Box.ex hB42 hE55) (Nat.le_of_ble_eq_true rfl) ?_)))
 intro w58 hB59 hO60
 have hB59 : Box w58 b19 59 [.string (bs (p_a.Name)), .slice A36 p_a.Cols.length c36, .slice A53 p_a.Idxs.length c53] := hB59
 have hO60z := hO60.size
 refine SeqR.done (tn (CW.seq (CW.region (sd rfl (yl_loadN (cs := [.string (bs (p_a.Name)), .slice A36 p_a.Cols.length c36, .slice A53 p_a.Idxs.length c53]) Try.ty59 rfl rfl (hB59.cells (n := 3) rfl) rfl (SeqR.u rfl rfl (yl_store (vs := [.string (bs (p_a.Name)), .slice A36 p_a.Cols.length c36, .slice A53 p_a.Idxs.length c53]) Try.ty59 rfl rfl rfl rfl rfl rfl (Box.only (Box.ex (Box.only (Box.ex (Box.only (Box.ex hB17 hE24) hO29 (by omega)) hE38) hO43 (by omega)) hE55) hO60 (by omega)) (Nat.le_of_ble_eq_true rfl) ?_)))))))
 intro w67 hB68 hO69
 have hB68 : Box w67 b13 59 [.string (bs (p_a.Name)), .slice A36 p_a.Cols.length c36, .slice A53 p_a.Idxs.length c53] := hB68
 have hO69z := hO69.size
 refine SeqR.done (tn (CW.ret (rr rfl (.cons ⟨_, rfl, run_loadN Try.ty59 (cs := [.string (bs (p_a.Name)), .slice A36 p_a.Cols.length c36, .slice A53 p_a.Idxs.length c53]) rfl (hB68.cells (n := 3) rfl)⟩ .nil) ?_)))
 have hM70 : p_a = (p_a) := (to_Table _).symm.trans <| by simp only [l_toTable, cond_true, cond_false, loopE_done, loopE_ret]
 rw [hM70]
 exact ⟨A36, c36, lo36, hi36, A53, c53, lo53, hi53, rfl, (OwnL.only good_Str (OwnL.only good_Str (OwnL.ex good_Str (OwnL.only good_Str h36 hO43 (by omega)) hE55) hO60 (by omega)) hO69 (by omega)), (OwnL.only good_Idx (OwnL.only good_Idx h53 hO60 (by omega)) hO69 (by omega)), (by omega), (by omega), (by omega), (Below.only (Below.only (Ex.trans (Below.only (Ex.trans (Below.only (Ex.trans (Ex.trans (Ex.trans (Ex.refl w) hE12) hE18) hE24) hO29 (by omega)) hE38) hO43 (by omega)) hE55) hO60 (by omega)) hO69 (by omega))⟩
set_option maxRecDepth 100000 in
set_option maxHeartbeats 2000000 in
theorem c_l_toTableS {A1 : Option Addr} {c1 : Nat} {w : World} (p_a : List DTable) (h1 : RdS w (Iv 0 w.heap.size) R_Table 3 A1 p_a.length c1 p_a) (o2 : (okL ok_Table) p_a) : Cal Try.prog 90 #[.slice A1 p_a.length c1] w fun v w' => ∃ A_1 c_1 lo_1 hi_1, v = .slice A_1 p_a.length c_1 ∧ OwnL w' lo_1 hi_1 59 3 R_Table A_1 p_a.length c_1 p_a ∧ (w.heap.size ≤ lo_1 ∧ lo_1 ≤ hi_1 ∧ hi_1 ≤ w'.heap.size) ∧ Ex w w' := by
 have hol3 := o2.1
 refine Cal.of (vs := [.slice A1 p_a.length c1]) Try.func90 rfl Try.ntmps90 rfl (CW.seq (CW.region (sd rfl (yl_assign rfl rfl (SeqR.done (tn (CW.seq (CW.region (sd rfl (yl_move rfl rfl ?_))))))))))
 refine sd rfl (yl_len Try.un80 rfl rfl (sd rfl (yl_make (zs := [.string (bs (([] : Str))), .slice none 0 0, .slice none 0 0]) (n := p_a.length) Try.un88 Try.ty59 rfl rfl (Nat.le_of_ble_eq_true rfl) rfl rfl rfl (by first | omega | assumption | (simp only [IntKind.wrap_i64] at *; omega)) (by first | omega | assumption | (simp only [IntKind.wrap_i64] at *; omega)) ?_)))
 intro b4 w5 hs6 hz7 hB8 hE9
 have hO10 : OwnL w5 b4 (b4 + 1) 59 3 R_Table (some ⟨b4, 0, none⟩) p_a.length p_a.length (List.replicate p_a.length d_Table) := by have := OwnL.of_box (lo := b4) (hi := b4 + 1) (R := R_Table) (S := fun _ => False) (xs := (List.replicate p_a.length d_Table)) hB8 (Nat.le_refl _) (Nat.lt_succ_self _) (EncL.zeros (Rl := R_Table w5 (fun _ => False)) (x := d_Table) ⟨none, 0, none, 0, rfl, RdS.nil _ _ _ _ _ _ (by decide), RdS.nil _ _ _ _ _ _ (by decide)⟩ p_a.length) (by rw [List.length_replicate]; omega) (fun h => h) (fun _ h => False.elim h); rwa [List.length_replicate] at this
 refine sd rfl (yl_assign rfl rfl (SeqR.done (tn (CW.seq (CW.seq (CW.region (sd rfl (yl_assign rfl rfl (SeqR.done (tn ?_))))))))))
 refine CW.block (CW.loop (fun m35 L36 w37 => ∃ (k11 : Nat) (x33 : List DTable) (u34 : Nat), m35 = p_a.length - k11 ∧ k11 ≤ p_a.length ∧ w5.heap.size ≤ w37.heap.size ∧ lkp L36 0 = some (.slice A1 p_a.length c1) ∧ lkp L36 3 = some (.slice (some ⟨b4, 0, none⟩) p_a.length p_a.length) ∧ lkp L36 4 = some (.int .i64 ((k11 : Int))) ∧ RdS w37 (Iv 0 w.heap.size) R_Table 3 A1 p_a.length c1 p_a ∧ OwnL w37 b4 u34 59 3 R_Table (some ⟨b4, 0, none⟩) p_a.length p_a.length x33 ∧ Ex w w37 ∧ (b4 ≤ u34 ∧ u34 ≤ w37.heap.size) ∧ loopM (B_l_toTableS_0 p_a) (p_a.length - k11) k11 (x33) = loopM (B_l_toTableS_0 p_a) (p_a.length - 0) 0 ((List.replicate p_a.length d_Table))) (p_a.length - 0) ?_ ?_)
 ·exact ⟨0, (List.replicate p_a.length d_Table), (b4 + 1), rfl, (by omega), Nat.le_refl _, rfl, rfl, rfl, (RdS.ex good_Table h1 hE9), hO10, (Ex.trans (Ex.refl w) hE9), (by omega), rfl⟩
 ·rintro m40 L41 w42 ⟨k11, x33, u34, rfl, hk43, hsz45, hl46, hl47, hl48, hf49, hf50, hf51, hu52, hI44⟩
  refine CW.sub (Sub.cons hl46 (Sub.cons hl47 (Sub.cons hl48 (Sub.nil _)))) ?_
  have hf51z := Ex.size hf51
  have hbg53 := RdS.big hf49
  rcases Nat.lt_or_ge k11 p_a.length with hlt54 | hlt54
  ·refine CW.seq (CW.seq (CW.region (sd rfl (yl_move rfl rfl (sd rfl (yl_move rfl rfl (sd rfl (yl_len Try.un80 rfl rfl (sd rfl (yl_lss rfl rfl rfl (SeqR.done (tn ?_))))))))))))
   refine CW.cond_t rfl (lt_t hlt54) (CW.skip (tn (CW.seq (CW.block (CW.region (sd rfl (yl_move rfl rfl (sd rfl (yl_move rfl rfl (sd rfl (yl_move rfl rfl ?_)))))))))))
   refine sd rfl (yl_move rfl rfl ?_)
   obtain ⟨eb55, eo55, ec55, eA55, eS55, ebl55, el55, eR55, eC55⟩ := RdS.atD hf49 d_Table (i := k11) (by first | omega | assumption)
   obtain ⟨A56, c56, A57, c57, rfl, h56, h57⟩ := eR55
   have eC55 : Cells w42 eb55 (eo55 + k11 * 3) [.string (bs ((p_a.getD k11 d_Table).Name)), .slice A56 (((p_a.getD k11 d_Table).Cols).length) c56, .slice A57 (((p_a.getD k11 d_Table).Idxs).length) c57] := eC55
   refine sd rfl (yl_indexAddrN Try.un80 Try.ty48 rfl rfl rfl eA55 (by first | omega | assumption | (simp only [IntKind.wrap_i64] at *; omega)) (sd rfl (yl_loadN (cs := [.string (bs ((p_a.getD k11 d_Table).Name)), .slice A56 (((p_a.getD k11 d_Table).Cols).length) c56, .slice A57 (((p_a.getD k11 d_Table).Idxs).length) c57]) Try.ty48 rfl rfl eC55 rfl (sd rfl (yl_call Try.en23 rfl (opvs_cons rfl opvs_nil) (Cal.mono (c_l_toTable (p_a.getD k11 d_Table) (RdS.up h56 good_Str) (RdS.up h57 good_Idx) (okL.getD o2 ok_d_Table _)) ?_))))))
   rintro v61 w58 ⟨A59, c59, lo59, hi59, A60, c60, lo60, hi60, rfl, h59, h60, hrn63, hrn64, hrn65, hE62⟩
   have hE62z := Ex.size hE62
   have q67 := OwnL.ex good_Table hf50 hE62
   obtain ⟨eb68, eo68, ec68, eA68, eS68, ebl68, el68, eR68, eC68⟩ := RdS.atD (OwnL.rd good_Table q67) d_Table (i := k11) (by first | omega | assumption)
   obtain ⟨A69, c69, A70, c70, rfl, h69, h70⟩ := eR68
   have eC68 : Cells w58 eb68 (eo68 + k11 * 3) [.string (bs ((x33.getD k11 d_Table).Name)), .slice A69 (((x33.getD k11 d_Table).Cols).length) c69, .slice A70 (((x33.getD k11 d_Table).Idxs).length) c70] := eC68
   refine sd rfl (yl_indexAddrN Try.un88 Try.ty59 rfl rfl rfl eA68 (by first | omega | assumption | (simp only [IntKind.wrap_i64] at *; omega)) ?_)
   have hrg71 := OwnL.rng q67 (i := k11) (by first | omega | assumption | (simp only [IntKind.wrap_i64] at *; omega)) eb68 (by rw [eA68]; rfl)
   refine SeqR.u rfl rfl (yl_storeW (off := eo68) (i := k11) (x' := (p_a.getD k11 d_Table)) (vs := [.string (bs ((p_a.getD k11 d_Table).Name)), .slice A59 (((p_a.getD k11 d_Table).Cols).length) c59, .slice A60 (((p_a.getD k11 d_Table).Idxs).length) c60]) (S' := (Iv w42.heap.size w58.heap.size)) good_Table Try.ty59 rfl q67 eA68 rfl rfl rfl rfl (by first | omega | assumption | (simp only [IntKind.wrap_i64] at *; omega)) ⟨A59, c59, A60, c60, rfl, (RdS.wide good_Str (OwnL.rd good_Str h59) (fun b hh hl => ⟨by have := hh.1; omega, hl⟩)), (RdS.wide good_Idx (OwnL.rd good_Idx h60) (fun b hh hl => ⟨by have := hh.1; omega, hl⟩))⟩ (fun b hh _ => ⟨by have := hh.1; omega, by have := hh.1; omega⟩) (by omega) ?_)
   intro w72 hB73 hO74
   have hO74z := hO74.size
   refine SeqR.done (bn (tn (CW.region (sd rfl (yl_move rfl rfl (sd rfl (yl_inc rfl rfl rfl (by omega) (sd rfl (yl_assign rfl rfl (SeqR.done (tn ?_)))))))))))
   have hB77 : B_l_toTableS_0 p_a k11 (x33) = .cont ((x33.set k11 (p_a.getD k11 d_Table))) := by simp only [B_l_toTableS_0, cond_true, cond_false, loopE_done, loopE_ret]
   exact ⟨p_a.length - (k11 + 1), by omega, k11 + 1, (x33.set k11 (p_a.getD k11 d_Table)), w72.heap.size, rfl, hlt54, (by omega), rfl, rfl, rfl, (RdS.only good_Table (RdS.ex good_Table hf49 hE62) hO74 (by simp only [Iv]; omega)), hB73, (Below.only (Ex.trans hf51 hE62) hO74 (by omega)), (by omega), (loopM.cont hlt54 hB77).symm.trans hI44⟩
  ·refine CW.seq (CW.seq (CW.region (sd rfl (yl_move rfl rfl (sd rfl (yl_move rfl rfl (sd rfl (yl_len Try.un80 rfl rfl (sd rfl (yl_lss rfl rfl rfl (SeqR.done (tn ?_))))))))))))
   refine CW.cond_f rfl (lt_f hlt54) (CW.exit (tx (tx ?_)))
   have hL82 : loopM (B_l_toTableS_0 p_a) (p_a.length - 0) 0 ((List.replicate p_a.length d_Table)) = .done (x33) := hI44.symm.trans (loopM.stop hlt54)
   refine bx (tn (CW.seq (CW.region (sd rfl (yl_move rfl rfl (sd rfl (yl_assign rfl rfl (SeqR.done (tn (CW.ret ?_))))))))))
   refine rr rfl (.cons rfl .nil) ?_
   have hM83 : p_a = (x33) := (to_TableS _).symm.trans <| by simp only [l_toTableS, hL82, cond_true, cond_false, loopE_done, loopE_ret]
   subst hM83
   exact ⟨(some ⟨b4, 0, none⟩), p_a.length, b4, u34, rfl, hf50, (by omega), hf51⟩
set_option maxRecDepth 100000 in
set_option maxHeartbeats 2000000 in
theorem c_l_toIntS {A1 : Option Addr} {c1 : Nat} {w : World} (p_a : List Int) (h1 : RdS w (Iv 0 w.heap.size) (RF e_Int) 1 A1 p_a.length c1 p_a) (o2 : (okL okT) p_a) : Cal Try.prog 91 #[.slice A1 p_a.length c1] w fun v w' => ∃ A_1 c_1 lo_1 hi_1, v = .slice A_1 p_a.length c_1 ∧ OwnL w' lo_1 hi_1 3 1 (RF e_Int) A_1 p_a.length c_1 p_a ∧ (w.heap.size ≤ lo_1 ∧ lo_1 ≤ hi_1 ∧ hi_1 ≤ w'.heap.size) ∧ Ex w w' := by
 have hol3 := o2.1
 refine Cal.of (vs := [.slice A1 p_a.length c1]) Try.func91 rfl Try.ntmps91 rfl (CW.seq (CW.region (sd rfl (yl_assign rfl rfl (SeqR.done (tn (CW.seq (CW.region (sd rfl (yl_move rfl rfl ?_))))))))))
 refine sd rfl (yl_len Try.un81 rfl rfl (sd rfl (yl_make (zs := [.int .i64 (0)]) (n := p_a.length) Try.un81 Try.ty3 rfl rfl (Nat.le_of_ble_eq_true rfl) rfl rfl rfl (by first | omega | assumption | (simp only [IntKind.wrap_i64] at *; omega)) (by first | omega | assumption | (simp only [IntKind.wrap_i64] at *; omega)) ?_)))
 intro b4 w5 hs6 hz7 hB8 hE9
 have hO10 : OwnL w5 b4 (b4 + 1) 3 1 (RF e_Int) (some ⟨b4, 0, none⟩) p_a.length p_a.length (List.replicate p_a.length d_Int) := by have := OwnL.of_boxF (lo := b4) (hi := b4 + 1) (xs := (List.replicate p_a.length d_Int)) hB8 (Nat.le_refl _) (Nat.lt_succ_self _) (EncL.zerosF (enc := e_Int) (d := d_Int) rfl p_a.length) (by rw [List.length_replicate]; omega); rwa [List.length_replicate] at this
 refine sd rfl (yl_assign rfl rfl (SeqR.done (tn (CW.seq (CW.seq (CW.region (sd rfl (yl_assign rfl rfl (SeqR.done (tn ?_))))))))))
 refine CW.block (CW.loop (fun m20 L21 w22 => ∃ (k11 : Nat) (x19 : List Int), m20 = p_a.length - k11 ∧ k11 ≤ p_a.length ∧ w5.heap.size ≤ w22.heap.size ∧ lkp L21 0 = some (.slice A1 p_a.length c1) ∧ lkp L21 3 = some (.slice (some ⟨b4, 0, none⟩) p_a.length p_a.length) ∧ lkp L21 4 = some (.int .i64 ((k11 : Int))) ∧ RdS w22 (Iv 0 w.heap.size) (RF e_Int) 1 A1 p_a.length c1 p_a ∧ OwnL w22 b4 (b4 + 1) 3 1 (RF e_Int) (some ⟨b4, 0, none⟩) p_a.length p_a.length x19 ∧ Ex w w22 ∧ loopM (B_l_toIntS_0 p_a) (p_a.length - k11) k11 (x19) = loopM (B_l_toIntS_0 p_a) (p_a.length - 0) 0 ((List.replicate p_a.length d_Int))) (p_a.length - 0) ?_ ?_)
 ·exact ⟨0, (List.replicate p_a.length d_Int), rfl, (by omega), Nat.le_refl _, rfl, rfl, rfl, (RdS.ex good_Int h1 hE9), hO10, (Ex.trans (Ex.refl w) hE9), rfl⟩
 ·rintro m25 L26 w27 ⟨k11, x19, rfl, hk28, hsz30, hl31, hl32, hl33, hf34, hf35, hf36, hI29⟩
  refine CW.sub (Sub.cons hl31 (Sub.cons hl32 (Sub.cons hl33 (Sub.nil _)))) ?_
  have hf36z := Ex.size hf36
  have hbg37 := RdS.big hf34
  rcases Nat.lt_or_ge k11 p_a.length with hlt38 | hlt38
  ·refine CW.seq (CW.seq (CW.region (sd rfl (yl_move rfl rfl (sd rfl (yl_move rfl rfl (sd rfl (yl_len Try.un81 rfl rfl (sd rfl (yl_lss rfl rfl rfl (SeqR.done (tn ?_))))))))))))
   refine CW.cond_t rfl (lt_t hlt38) (CW.skip (tn (CW.seq (CW.block (CW.region (sd rfl (yl_move rfl rfl (sd rfl (yl_move rfl rfl (sd rfl (yl_move rfl rfl ?_)))))))))))
   refine sd rfl (yl_move rfl rfl ?_)
   obtain ⟨eb39, eo39, ec39, eA39, eS39, ebl39, el39, eR39, eC39⟩ := RdS.atD hf34 d_Int (i := k11) (by first | omega | assumption)
   obtain rfl := eR39
   have eC39 : Cells w27 eb39 (eo39 + k11 * 1) [.int .i64 ((p_a.getD k11 d_Int))] := eC39
   refine sd rfl (yl_indexAddrN Try.un81 Try.ty3 rfl rfl rfl eA39 (by first | omega | assumption | (simp only [IntKind.wrap_i64] at *; omega)) (sd rfl (yl_load1 Try.ty3 rfl rfl (eC39 0 _ rfl) ?_)))
   obtain ⟨eb41, eo41, ec41, eA41, eS41, ebl41, el41, eR41, eC41⟩ := RdS.atD (OwnL.rd good_Int hf35) d_Int (i := k11) (by first | omega | assumption)
   obtain rfl := eR41
   have eC41 : Cells w27 eb41 (eo41 + k11 * 1) [.int .i64 ((x19.getD k11 d_Int))] := eC41
   refine sd rfl (yl_indexAddrN Try.un81 Try.ty3 rfl rfl rfl eA41 (by first | omega | assumption | (simp only [IntKind.wrap_i64] at *; omega)) ?_)
   have hrg42 := OwnL.rng hf35 (i := k11) (by first | omega | assumption | (simp only [IntKind.wrap_i64] at *; omega)) eb41 (by rw [eA41]; rfl)
   refine SeqR.u rfl rfl (yl_storeF (off := eo41) (i := k11) (d := 0) (dx := d_Int) (x' := (p_a.getD k11 d_Int)) (vs := [.int .i64 ((p_a.getD k11 d_Int))]) Try.ty3 rfl hf35 eA41 rfl rfl rfl rfl rfl (by first | omega | assumption | (simp only [IntKind.wrap_i64] at *; omega)) (Nat.le_of_ble_eq_true rfl) rfl rfl ?_)
   intro w43 hB44 hO45
   have hO45z := hO45.size
   refine SeqR.done (bn (tn (CW.region (sd rfl (yl_move rfl rfl (sd rfl (yl_inc rfl rfl rfl (by omega) (sd rfl (yl_assign rfl rfl (SeqR.done (tn ?_)))))))))))
   have hB46 : B_l_toIntS_0 p_a k11 (x19) = .cont ((x19.set k11 (p_a.getD k11 d_Int))) := by simp only [B_l_toIntS_0, cond_true, cond_false, loopE_done, loopE_ret]
   exact ⟨p_a.length - (k11 + 1), by omega, k11 + 1, (x19.set k11 (p_a.getD k11 d_Int)), rfl, hlt38, (by omega), rfl, rfl, rfl, (RdS.only good_Int hf34 hO45 (by simp only [Iv]; omega)), hB44, (Below.only hf36 hO45 (by omega)), (loopM.cont hlt38 hB46).symm.trans hI29⟩
  ·refine CW.seq (CW.seq (CW.region (sd rfl (yl_move rfl rfl (sd rfl (yl_move rfl rfl (sd rfl (yl_len Try.un81 rfl rfl (sd rfl (yl_lss rfl rfl rfl (SeqR.done (tn ?_))))))))))))
   refine CW.cond_f rfl (lt_f hlt38) (CW.exit (tx (tx ?_)))
   have hL49 : loopM (B_l_toIntS_0 p_a) (p_a.length - 0) 0 ((List.replicate p_a.length d_Int)) = .done (x19) := hI29.symm.trans (loopM.stop hlt38)
   refine bx (tn (CW.seq (CW.region (sd rfl (yl_move rfl rfl (sd rfl (yl_assign rfl rfl (SeqR.done (tn (CW.ret ?_))))))))))
   refine rr rfl (.cons rfl .nil) ?_
   have hM50 : p_a = (x19) := (to_IntS _).symm.trans <| by simp only [l_toIntS, hL49, cond_true, cond_false, loopE_done, loopE_ret]
   subst hM50
   exact ⟨(some ⟨b4, 0, none⟩), p_a.length, b4, (b4 + 1), rfl, hf35, (by omega), hf36⟩
set_option maxRecDepth 100000 in
set_option maxHeartbeats 2000000 in
theorem c_l_toShift {A1 : Option Addr} {c1 : Nat} {A2 : Option Addr} {c2 : Nat} {A3 : Option Addr} {c3 : Nat} {w : World} (p_a : DShift) (h1 : RdS w (Iv 0 w.heap.size) R_Table 3 A1 p_a.Ways.length c1 p_a.Ways) (h2 : RdS w (Iv 0 w.heap.size) (RF e_Int) 1 A2 p_a.At.length c2 p_a.At) (h3 : RdS w (Iv 0 w.heap.size) (RF e_Write) 3 A3 p_a.Store.length c3 p_a.Store) (o4 : ok_Shift p_a) : Cal Try.prog 36 #[.agg #[.string (bs (p_a.Name)), .slice A1 p_a.Ways.length c1, .slice A2 p_a.At.length c2, .slice A3 p_a.Store.length c3]] w fun v w' => ∃ A_1 c_1 lo_1 hi_1 A_2 c_2 lo_2 hi_2 A_3 c_3 lo_3 hi_3, v = .agg #[.string (bs (p_a.Name)), .slice A_1 p_a.Ways.length c_1, .slice A_2 p_a.At.length c_2, .slice A_3 p_a.Store.length c_3] ∧ OwnL w' lo_1 hi_1 59 3 R_Table A_1 p_a.Ways.length c_1 p_a.Ways ∧ OwnL w' lo_2 hi_2 3 1 (RF e_Int) A_2 p_a.At.length c_2 p_a.At ∧ OwnL w' lo_3 hi_3 54 3 (RF e_Write) A_3 p_a.Store.length c_3 p_a.Store ∧ (w.heap.size ≤ lo_1 ∧ lo_1 ≤ hi_1 ∧ hi_1 ≤ w'.heap.size) ∧ (w.heap.size ≤ lo_2 ∧ lo_2 ≤ hi_2 ∧ hi_2 ≤ w'.heap.size) ∧ (w.heap.size ≤ lo_3 ∧ lo_3 ≤ hi_3 ∧ hi_3 ≤ w'.heap.size) ∧ (hi_1 ≤ lo_2 ∨ hi_2 ≤ lo_1) ∧ (hi_1 ≤ lo_3 ∨ hi_3 ≤ lo_1) ∧ (hi_2 ≤ lo_3 ∨ hi_3 ≤ lo_2) ∧ Ex w w' := by
 have hol5 : p_a.Name.length ≤ 1073741824 := o4.1
 have hol6 := o4.2.1.1
 have hol7 := o4.2.2.1.1
 have hol8 := o4.2.2.2.1
 refine Cal.of (vs := [.agg #[.string (bs (p_a.Name)), .slice A1 p_a.Ways.length c1, .slice A2 p_a.At.length c2, .slice A3 p_a.Store.length c3]]) Try.func36 rfl Try.ntmps36 rfl (CW.seq (CW.region (sd rfl (yl_box (cs := [.string (bs (p_a.Name)), .slice A1 p_a.Ways.length c1, .slice A2 p_a.At.length c2, .slice A3 p_a.Store.length c3]) rfl rfl rfl ?_))))
 intro b9 w10 hs11 hz12 hB13 hE14
 refine sd rfl (yl_alloc Try.ty91 (cs := [.string (bs (([] : Str))), .slice none 0 0, .slice none 0 0, .slice none 0 0]) rfl rfl ?_)
 intro b15 w16 hs17 hz18 hB19 hE20
 refine SeqR.done (tn (CW.seq (CW.region (sd rfl (yl_alloc Try.ty91 (cs := [.string (bs (([] : Str))), .slice none 0 0, .slice none 0 0, .slice none 0 0]) rfl rfl ?_)))))
 intro b21 w22 hs23 hz24 hB25 hE26
 refine SeqR.done (tn (CW.seq (CW.region (sd rfl (yl_fieldAddr Try.fd84_0 rfl rfl ?_)))))
 have q28 := Box.ex (Box.ex hB13 hE20) hE26
 refine sd rfl (yl_load1 Try.ty9 rfl rfl ((q28.cell 0).trans rfl) (sd rfl (yl_fieldAddr Try.fd91_0 rfl rfl (SeqR.u rfl rfl (yl_store (vs := [.string (bs (p_a.Name))]) Try.ty9 rfl rfl rfl rfl rfl rfl hB25 (Nat.le_of_ble_eq_true rfl) ?_)))))
 intro w29 hB30 hO31
 have hB30 : Box w29 b21 91 [.string (bs (p_a.Name)), .slice none 0 0, .slice none 0 0, .slice none 0 0] := hB30
 have hO31z := hO31.size
 refine SeqR.done (tn (CW.seq (CW.region (sd rfl (yl_fieldAddr Try.fd84_1 rfl rfl ?_)))))
 have q32 := Box.only q28 hO31 (by omega)
 refine sd rfl (yl_load1 Try.ty80 rfl rfl ((q32.cell 1).trans rfl) (sd rfl (yl_call Try.en90 rfl (opvs_cons rfl opvs_nil) (Cal.mono (c_l_toTableS p_a.Ways (RdS.up (RdS.only good_Table (RdS.ex good_Table (RdS.ex good_Table (RdS.ex good_Table h1 hE14) hE20) hE26) hO31 (by simp only [Iv]; omega)) good_Table) o4.2.1) ?_))))
 rintro v39 w37 ⟨A38, c38, lo38, hi38, rfl, h38, hrn41, hE40⟩
 have hE40z := Ex.size hE40
 refine sd rfl (yl_fieldAddr Try.fd91_1 rfl rfl (SeqR.u rfl rfl (yl_store (vs := [.slice A38 p_a.Ways.length c38]) Try.ty88 rfl rfl rfl rfl rfl rfl (Box.ex hB30 hE40) (Nat.le_of_ble_eq_true rfl) ?_)))
 intro w43 hB44 hO45
 have hB44 : Box w43 b21 91 [.string (bs (p_a.Name)), .slice A38 p_a.Ways.length c38, .slice none 0 0, .slice none 0 0] := hB44
 have hO45z := hO45.size
 refine SeqR.done (tn (CW.seq (CW.region (sd rfl (yl_fieldAddr Try.fd84_2 rfl rfl ?_)))))
 have q47 := Box.only (Box.ex q32 hE40) hO45 (by omega)
 refine sd rfl (yl_load1 Try.ty81 rfl rfl ((q47.cell 2).trans rfl) (sd rfl (yl_call Try.en91 rfl (opvs_cons rfl opvs_nil) (Cal.mono (c_l_toIntS p_a.At (RdS.up (RdS.only good_Int (RdS.ex good_Int (RdS.only good_Int (RdS.ex good_Int (RdS.ex good_Int (RdS.ex good_Int h2 hE14) hE20) hE26) hO31 (by simp only [Iv]; omega)) hE40) hO45 (by simp only [Iv]; omega)) good_Int) o4.2.2.1) ?_))))
 rintro v56 w54 ⟨A55, c55, lo55, hi55, rfl, h55, hrn58, hE57⟩
 have hE57z := Ex.size hE57
 refine sd rfl (yl_fieldAddr Try.fd91_2 rfl rfl (SeqR.u rfl rfl (yl_store (vs := [.slice A55 p_a.At.length c55]) Try.ty81 rfl rfl rfl rfl rfl rfl (Box.ex hB44 hE57) (Nat.le_of_ble_eq_true rfl) ?_)))
 intro w60 hB61 hO62
 have hB61 : Box w60 b21 91 [.string (bs (p_a.Name)), .slice A38 p_a.Ways.length c38, .slice A55 p_a.At.length c55, .slice none 0 0] := hB61
 have hO62z := hO62.size
 refine SeqR.done (tn (CW.seq (CW.region (sd rfl (yl_fieldAddr Try.fd84_3 rfl rfl (sd rfl (yl_load1 Try.ty82 rfl rfl (((Box.only (Box.ex q47 hE57) hO62 (by omega)).cell 3).trans rfl) (sd rfl (yl_call Try.en43 rfl (opvs_cons rfl opvs_nil) (Cal.mono (c_l_toWriteS p_a.Store (RdS.up (RdS.only good_Write (RdS.ex good_Write (RdS.only good_Write (RdS.ex good_Write (RdS.only good_Write (RdS.ex good_Write (RdS.ex good_Write (RdS.ex good_Write h3 hE14) hE20) hE26) hO31 (by simp only [Iv]; omega)) hE40) hO45 (by simp only [Iv]; omega)) hE57) hO62 (by simp only [Iv]; omega)) good_Write) o4.2.2.2) ?_))))))))))
 rintro v75 w73 ⟨A74, c74, lo74, hi74, rfl, h74, hrn77, hE76⟩
 have hE76z := Ex.size hE76
 refine sd rfl (yl_fieldAddr Try.fd91_3 rfl rfl (SeqR.u rfl rfl (yl_store (vs := [.slice A74 p_a.Store.length c74]) Try.ty89 rfl rfl rfl rfl rfl rfl (Box.ex hB61 hE76) (Nat.le_of_ble_eq_true rfl) ?_)))
 intro w79 hB80 hO81
 have hB80 : Box w79 b21 91 [.string (bs (p_a.Name)), .slice A38 p_a.Ways.length c38, .slice A55 p_a.At.length c55, .slice A74 p_a.Store.length c74] := hB80
 have hO81z := hO81.size
 refine SeqR.done (tn (CW.seq (CW.region (sd rfl (yl_loadN (cs := [.string (bs (p_a.Name)), .slice A38 p_a.Ways.length c38, .slice A55 p_a.At.length c55, .slice A74 p_a.Store.length c74]) Try.ty91 rfl rfl (hB80.cells (n := 4) rfl) rfl (SeqR.u rfl rfl (yl_store (vs := [.string (bs (p_a.Name)), .slice A38 p_a.Ways.length c38, .slice A55 p_a.At.length c55, .slice A74 p_a.Store.length c74]) Try.ty91 rfl rfl rfl rfl rfl rfl (Box.only (Box.ex (Box.only (Box.ex (Box.only (Box.ex (Box.only (Box.ex hB19 hE26) hO31 (by omega)) hE40) hO45 (by omega)) hE57) hO62 (by omega)) hE76) hO81 (by omega)) (Nat.le_of_ble_eq_true rfl) ?_)))))))
 intro w90 hB91 hO92
 have hB91 : Box w90 b15 91 [.string (bs (p_a.Name)), .slice A38 p_a.Ways.length c38, .slice A55 p_a.At.length c55, .slice A74 p_a.Store.length c74] := hB91
 have hO92z := hO92.size
 refine SeqR.done (tn (CW.ret (rr rfl (.cons ⟨_, rfl, run_loadN Try.ty91 (cs := [.string (bs (p_a.Name)), .slice A38 p_a.Ways.length c38, .slice A55 p_a.At.length c55, .slice A74 p_a.Store.length c74]) rfl (hB91.cells (n := 4) rfl)⟩ .nil) ?_)))
 have hM93 : p_a = (p_a) := (to_Shift _).symm.trans <| by simp only [l_toShift, cond_true, cond_false, loopE_done, loopE_ret]
 rw [hM93]
 exact ⟨A38, c38, lo38, hi38, A55, c55, lo55, hi55, A74, c74, lo74, hi74, rfl, (OwnL.only good_Table (OwnL.only good_Table (OwnL.ex good_Table (OwnL.only good_Table (OwnL.ex good_Table (OwnL.only good_Table h38 hO45 (by omega)) hE57) hO62 (by omega)) hE76) hO81 (by omega)) hO92 (by omega)), (OwnL.only good_Int (OwnL.only good_Int (OwnL.ex good_Int (OwnL.only good_Int h55 hO62 (by omega)) hE76) hO81 (by omega)) hO92 (by omega)), (OwnL.only good_Write (OwnL.only good_Write h74 hO81 (by omega)) hO92 (by omega)), (by omega), (by omega), (by omega), (by omega), (by omega), (by omega), (Below.only (Below.only (Ex.trans (Below.only (Ex.trans (Below.only (Ex.trans (Below.only (Ex.trans (Ex.trans (Ex.trans (Ex.refl w) hE14) hE20) hE26) hO31 (by omega)) hE40) hO45 (by omega)) hE57) hO62 (by omega)) hE76) hO81 (by omega)) hO92 (by omega))⟩
set_option maxRecDepth 100000 in
set_option maxHeartbeats 2000000 in
theorem c_i_within {w : World} (p_n : Int) (p_low : Int) (p_high : Int) : Cal Try.prog 51 #[.int .i64 (p_n), .int .i64 (p_low), .int .i64 (p_high)] w fun v w' => v = .bool ((i_within p_n p_low p_high)) ∧ Ex w w' := by
 refine Cal.of (vs := [.int .i64 (p_n), .int .i64 (p_low), .int .i64 (p_high)]) Try.func51 rfl Try.ntmps51 rfl (CW.seq (CW.region (sd rfl (yl_assign rfl rfl (SeqR.done (tn (CW.seq (CW.region (sd rfl (yl_move rfl rfl ?_))))))))))
 refine sd rfl (yl_move rfl rfl (sd rfl (yl_geq rfl rfl rfl (sd rfl (yl_move rfl rfl (bcase (decide (p_low ≤ p_n)) (fun hb1 => ?_) (fun hb1 => ?_)))))))
 ·have hb1p := dec_t hb1
  refine sy rfl rfl hb1 (yl_move rfl rfl (sy rfl rfl hb1 (yl_move rfl rfl (sy rfl rfl hb1 (yl_leq rfl rfl rfl (sd rfl (yl_pick_t rfl rfl hb1 rfl (sd rfl (yl_assign rfl rfl (SeqR.done (tn (CW.ret (rr rfl (.cons rfl .nil) ?_)))))))))))))
  have hM2 : (i_within p_n p_low p_high) = (decide (p_n ≤ p_high)) := by simp only [i_within, hb1, cond_true, cond_false, loopE_done, loopE_ret]
  rw [hM2]
  exact ⟨rfl, (Ex.refl w)⟩
 ·have hb1p := dec_f hb1
  refine sz rfl rfl hb1 (sz rfl rfl hb1 (sz rfl rfl hb1 (sd rfl (yl_pick_f rfl rfl hb1 rfl (sd rfl (yl_assign rfl rfl (SeqR.done (tn (CW.ret (rr rfl (.cons rfl .nil) ?_))))))))))
  have hM3 : (i_within p_n p_low p_high) = (false) := by simp only [i_within, hb1, cond_true, cond_false, loopE_done, loopE_ret]
  rw [hM3]
  exact ⟨rfl, (Ex.refl w)⟩
set_option maxRecDepth 100000 in
set_option maxHeartbeats 2000000 in
theorem c_g_slices_IndexFunc_Write {A1 : Option Addr} {c1 : Nat} {g3 : Nat} {cp4 : List Value} {w : World} (p_s : List DWrite) (p_f : DWrite → Bool) (h1 : RdS w (Iv 0 w.heap.size) (RF e_Write) 3 A1 p_s.length c1 p_s) (hen5 : Enters Try.prog g3) (hfn6 : ∀ (w1 : World) (y0 : DWrite), Ex w w1 → y0 ∈ p_s → ok_Write y0 → Cal Try.prog g3 (([.agg #[.string (bs (y0.Key)), .string (bs (y0.Val)), .bool (y0.Gone)]] : List Value) ++ cp4).toArray w1 fun v w2 => v = .bool (p_f y0) ∧ Ex w1 w2) (o2 : (okL ok_Write) p_s) : Cal Try.prog 207 #[.slice A1 p_s.length c1, .func (.func g3) #[] cp4.toArray] w fun v w' => v = .int .i64 ((g_slices_IndexFunc_Write p_s p_f)) ∧ Ex w w' := by
 have hol7 := o2.1
 refine Cal.of (vs := [.slice A1 p_s.length c1, .func (.func g3) #[] cp4.toArray]) Try.func207 rfl Try.ntmps207 rfl (CW.seq (CW.region (sd rfl (yl_assign rfl rfl (SeqR.done (tn (CW.seq (CW.seq (CW.region ?_)))))))))
 refine sd rfl (yl_move rfl rfl (sd rfl (yl_len Try.un89 rfl rfl (sd rfl (yl_move rfl rfl (SeqR.done (tn (CW.block (CW.loop (fun m9 L10 w11 => ∃ (k8 : Nat), m9 = p_s.length - k8 ∧ k8 ≤ p_s.length ∧ w.heap.size ≤ w11.heap.size ∧ lkp L10 0 = some (.slice A1 p_s.length c1) ∧ lkp L10 1 = some (.func (.func g3) #[] cp4.toArray) ∧ lkp L10 7 = some (.int .i64 ((p_s.length : Int))) ∧ lkp L10 8 = some (.int .i64 ((k8 : Int))) ∧ RdS w11 (Iv 0 w.heap.size) (RF e_Write) 3 A1 p_s.length c1 p_s ∧ Ex w w11 ∧ loopM (B_g_slices_IndexFunc_Write_0 p_s p_f) (p_s.length - k8) k8 () = loopM (B_g_slices_IndexFunc_Write_0 p_s p_f) (p_s.length - 0) 0 ()) (p_s.length - 0) ?_ ?_)))))))))
 ·exact ⟨0, rfl, (by omega), Nat.le_refl _, rfl, rfl, rfl, rfl, h1, (Ex.refl w), rfl⟩
 ·rintro m12 L13 w14 ⟨k8, rfl, hk15, hsz17, hl18, hl19, hl20, hl21, hf22, hf23, hI16⟩
  refine CW.sub (Sub.cons hl18 (Sub.cons hl19 (Sub.cons hl20 (Sub.cons hl21 (Sub.nil _))))) ?_
  have hf23z := Ex.size hf23
  have hbg24 := RdS.big hf22
  rcases Nat.lt_or_ge k8 p_s.length with hlt25 | hlt25
  ·refine CW.seq (CW.region (sd rfl (yl_lss rfl rfl rfl (SeqR.done (tn (CW.seq (CW.cond_t rfl (lt_t hlt25) (CW.skip (tn ?_)))))))))
   refine CW.seq (CW.block (CW.seq (CW.region (sd rfl (yl_move rfl rfl (sd rfl (yl_assign rfl rfl (SeqR.done (tn (CW.seq ?_))))))))))
   refine CW.region (sd rfl (yl_move rfl rfl (sd rfl (yl_move rfl rfl (sd rfl (yl_move rfl rfl ?_))))))
   obtain ⟨eb26, eo26, ec26, eA26, eS26, ebl26, el26, eR26, eC26⟩ := RdS.atD hf22 d_Write (i := k8) (by first | omega | assumption)
   obtain rfl := eR26
   have eC26 : Cells w14 eb26 (eo26 + k8 * 3) [.string (bs ((p_s.getD k8 d_Write).Key)), .string (bs ((p_s.getD k8 d_Write).Val)), .bool ((p_s.getD k8 d_Write).Gone)] := eC26
   refine sd rfl (yl_indexAddrN Try.un89 Try.ty54 rfl rfl rfl eA26 (by first | omega | assumption | (simp only [IntKind.wrap_i64] at *; omega)) (sd rfl (yl_loadN (cs := [.string (bs ((p_s.getD k8 d_Write).Key)), .string (bs ((p_s.getD k8 d_Write).Val)), .bool ((p_s.getD k8 d_Write).Gone)]) Try.ty54 rfl rfl eC26 rfl (sd rfl (yl_callv hen5 rfl rfl (opvs_cons rfl opvs_nil) (Cal.mono (hfn6 w14 (p_s.getD k8 d_Write) hf23 (getD_mem (by omega)) (okL.getD o2 ok_d_Write _)) ?_))))))
   rintro v28 w27 ⟨rfl, hE29⟩
   have hE29z := Ex.size hE29
   refine SeqR.done (tn (bcase (p_f (p_s.getD k8 d_Write)) (fun hb30 => ?_) (fun hb30 => ?_)))
   ·refine CW.cond_t rfl hb30 (CW.seq (CW.region (sd rfl (yl_move rfl rfl (sd rfl (yl_assign rfl rfl (SeqR.done (tn (CW.ret (br ?_))))))))))
    refine tr (tr ?_)
    have hB32 : B_g_slices_IndexFunc_Write_0 p_s p_f k8 () = .ret (k8 : Int) := by simp only [B_g_slices_IndexFunc_Write_0, hb30, cond_true, cond_false, loopE_done, loopE_ret]
    have hL31 : loopM (B_g_slices_IndexFunc_Write_0 p_s p_f) (p_s.length - 0) 0 () = .ret (k8 : Int) := hI16.symm.trans (loopM.ret hlt25 hB32)
    refine br (tr (rr rfl (.cons rfl .nil) ?_))
    have hM33 : (g_slices_IndexFunc_Write p_s p_f) = ((k8 : Int)) := by simp only [g_slices_IndexFunc_Write, hb30, hL31, cond_true, cond_false, loopE_done, loopE_ret]
    rw [hM33]
    exact ⟨rfl, (Ex.trans hf23 hE29)⟩
   ·refine CW.cond_f rfl hb30 (CW.skip (bn (tn (CW.region (sd rfl (yl_inc rfl rfl rfl (by omega) (sd rfl (yl_move rfl rfl (SeqR.done (tn ?_))))))))))
    have hB35 : B_g_slices_IndexFunc_Write_0 p_s p_f k8 () = .cont () := by simp only [B_g_slices_IndexFunc_Write_0, hb30, cond_true, cond_false, loopE_done, loopE_ret]
    exact ⟨p_s.length - (k8 + 1), by omega, k8 + 1, rfl, hlt25, (by omega), rfl, rfl, rfl, rfl, (RdS.ex good_Write hf22 hE29), (Ex.trans hf23 hE29), (loopM.cont hlt25 hB35).symm.trans hI16⟩
  ·refine CW.seq (CW.region (sd rfl (yl_lss rfl rfl rfl (SeqR.done (tn (CW.seq (CW.cond_f rfl (lt_f hlt25) (CW.exit (tx ?_)))))))))
   refine tx ?_
   have hL38 : loopM (B_g_slices_IndexFunc_Write_0 p_s p_f) (p_s.length - 0) 0 () = .done () := hI16.symm.trans (loopM.stop hlt25)
   refine bx (tn (CW.seq (CW.region (sd rfl (yl_assign rfl rfl (SeqR.done (tn (CW.ret (rr rfl (.cons rfl .nil) ?_)))))))))
   have hM39 : (g_slices_IndexFunc_Write p_s p_f) = (-1) := by simp only [g_slices_IndexFunc_Write, hL38, cond_true, cond_false, loopE_done, loopE_ret]
   rw [hM39]
   exact ⟨rfl, hf23⟩
set_option maxRecDepth 100000 in
set_option maxHeartbeats 2000000 in
theorem c_g_slices_ContainsFunc_Write {A1 : Option Addr} {c1 : Nat} {g3 : Nat} {cp4 : List Value} {w : World} (p_s : List DWrite) (p_f : DWrite → Bool) (h1 : RdS w (Iv 0 w.heap.size) (RF e_Write) 3 A1 p_s.length c1 p_s) (hen5 : Enters Try.prog g3) (hfn6 : ∀ (w1 : World) (y0 : DWrite), Ex w w1 → y0 ∈ p_s → ok_Write y0 → Cal Try.prog g3 (([.agg #[.string (bs (y0.Key)), .string (bs (y0.Val)), .bool (y0.Gone)]] : List Value) ++ cp4).toArray w1 fun v w2 => v = .bool (p_f y0) ∧ Ex w1 w2) (o2 : (okL ok_Write) p_s) : Cal Try.prog 166 #[.slice A1 p_s.length c1, .func (.func g3) #[] cp4.toArray] w fun v w' => v = .bool ((g_slices_ContainsFunc_Write p_s p_f)) ∧ Ex w w' := by
 have hol7 := o2.1
 refine Cal.of (vs := [.slice A1 p_s.length c1, .func (.func g3) #[] cp4.toArray]) Try.func166 rfl Try.ntmps166 rfl (CW.seq (CW.region (sd rfl (yl_assign rfl rfl (SeqR.done (tn (CW.seq (CW.region (sd rfl (yl_move rfl rfl ?_))))))))))
 refine sd rfl (yl_move rfl rfl (sd rfl (yl_call Try.en207 rfl (opvs_cons rfl (opvs_cons rfl opvs_nil)) (Cal.mono (c_g_slices_IndexFunc_Write p_s p_f (RdS.up h1 good_Write) hen5 (fun w1 y0 => fun hE => hfn6 w1 y0 (Ex.trans (Ex.refl w) hE)) o2) ?_))))
 rintro v9 w8 ⟨rfl, hE10⟩
 have hE10z := Ex.size hE10
 refine sd rfl (yl_geq rfl rfl rfl (sd rfl (yl_assign rfl rfl (SeqR.done (tn (CW.ret (rr rfl (.cons rfl .nil) ?_)))))))
 have hM11 : (g_slices_ContainsFunc_Write p_s p_f) = (decide (0 ≤ (g_slices_IndexFunc_Write p_s p_f))) := by simp only [g_slices_ContainsFunc_Write, cond_true, cond_false, loopE_done, loopE_ret]
 rw [hM11]
 exact ⟨rfl, (Ex.trans (Ex.refl w) hE10)⟩
set_option maxRecDepth 100000 in
set_option maxHeartbeats 2000000 in
theorem c_i_isLowerOrDigit {w : World} (p_b : Int) : Cal Try.prog 230 #[.int .u8 (p_b)] w fun v w' => v = .bool ((i_isLowerOrDigit p_b)) ∧ Ex w w' := by
 refine Cal.of (vs := [.int .u8 (p_b)]) Try.func230 rfl Try.ntmps230 rfl (CW.seq (CW.region (sd rfl (yl_assign rfl rfl (SeqR.done (tn (CW.seq (CW.region (sd rfl (yl_move rfl rfl ?_))))))))))
 refine sd rfl (yl_geq rfl rfl rfl (sd rfl (yl_move rfl rfl (bcase (decide (97 ≤ p_b)) (fun hb1 => ?_) (fun hb1 => ?_)))))
 ·have hb1p := dec_t hb1
  refine sy rfl rfl hb1 (yl_move rfl rfl (sy rfl rfl hb1 (yl_leq rfl rfl rfl (sd rfl (yl_pick_t rfl rfl hb1 rfl (sd rfl (yl_move rfl rfl (bcase (decide (p_b ≤ 122)) (fun hb2 => ?_) (fun hb2 => ?_)))))))))
  ·have hb2p := dec_t hb2
   refine sz rfl rfl hb2 (sz rfl rfl hb2 (sz rfl rfl hb2 (sq rfl rfl (sq rfl rfl (sz rfl rfl hb2 (sd rfl (yl_pick_t rfl rfl hb2 rfl (sd rfl (yl_assign rfl rfl (SeqR.done ?_))))))))))
   refine tn (CW.ret (rr rfl (.cons rfl .nil) ?_))
   have hM3 : (i_isLowerOrDigit p_b) = (true) := by simp only [i_isLowerOrDigit, hb1, hb2, cond_true, cond_false, loopE_done, loopE_ret]
   rw [hM3]
   exact ⟨rfl, (Ex.refl w)⟩
  ·have hb2p := dec_f hb2
   refine sy rfl rfl hb2 (yl_move rfl rfl (sy rfl rfl hb2 (yl_geq rfl rfl rfl (sy rfl rfl hb2 (yl_move rfl rfl (bcase (decide (48 ≤ p_b)) (fun hb4 => ?_) (fun hb4 => ?_)))))))
   ·have hb4p := dec_t hb4
    refine sy rfl rfl hb4 (yl_move rfl rfl (sy rfl rfl hb4 (yl_leq rfl rfl rfl (sy rfl rfl hb2 (yl_pick_t rfl rfl hb4 rfl (sd rfl (yl_pick_f rfl rfl hb2 rfl (sd rfl (yl_assign rfl rfl (SeqR.done (tn (CW.ret (rr rfl (.cons rfl .nil) ?_)))))))))))))
    have hM5 : (i_isLowerOrDigit p_b) = (decide (p_b ≤ 57)) := by simp only [i_isLowerOrDigit, hb1, hb2, hb4, cond_true, cond_false, loopE_done, loopE_ret]
    rw [hM5]
    exact ⟨rfl, (Ex.refl w)⟩
   ·have hb4p := dec_f hb4
    refine sz rfl rfl hb4 (sz rfl rfl hb4 (sy rfl rfl hb2 (yl_pick_f rfl rfl hb4 rfl (sd rfl (yl_pick_f rfl rfl hb2 rfl (sd rfl (yl_assign rfl rfl (SeqR.done (tn (CW.ret (rr rfl (.cons rfl .nil) ?_)))))))))))
    have hM6 : (i_isLowerOrDigit p_b) = (false) := by simp only [i_isLowerOrDigit, hb1, hb2, hb4, cond_true, cond_false, loopE_done, loopE_ret]
    rw [hM6]
    exact ⟨rfl, (Ex.refl w)⟩
 ·have hb1p := dec_f hb1
  refine sz rfl rfl hb1 (sz rfl rfl hb1 (sd rfl (yl_pick_f rfl rfl hb1 rfl (sd rfl (yl_move rfl rfl (sy rfl rfl rfl (yl_move rfl rfl (sy rfl rfl rfl (yl_geq rfl rfl rfl (sy rfl rfl rfl (yl_move rfl rfl (bcase (decide (48 ≤ p_b)) (fun hb7 => ?_) (fun hb7 => ?_)))))))))))))
  ·have hb7p := dec_t hb7
   refine sy rfl rfl hb7 (yl_move rfl rfl (sy rfl rfl hb7 (yl_leq rfl rfl rfl (sy rfl rfl rfl (yl_pick_t rfl rfl hb7 rfl (sd rfl (yl_pick_f rfl rfl rfl rfl (sd rfl (yl_assign rfl rfl (SeqR.done (tn (CW.ret (rr rfl (.cons rfl .nil) ?_)))))))))))))
   have hM8 : (i_isLowerOrDigit p_b) = (decide (p_b ≤ 57)) := by simp only [i_isLowerOrDigit, hb1, hb7, cond_true, cond_false, loopE_done, loopE_ret]
   rw [hM8]
   exact ⟨rfl, (Ex.refl w)⟩
  ·have hb7p := dec_f hb7
   refine sz rfl rfl hb7 (sz rfl rfl hb7 (sy rfl rfl rfl (yl_pick_f rfl rfl hb7 rfl (sd rfl (yl_pick_f rfl rfl rfl rfl (sd rfl (yl_assign rfl rfl (SeqR.done (tn (CW.ret (rr rfl (.cons rfl .nil) ?_)))))))))))
   have hM9 : (i_isLowerOrDigit p_b) = (false) := by simp only [i_isLowerOrDigit, hb1, hb7, cond_true, cond_false, loopE_done, loopE_ret]
   rw [hM9]
   exact ⟨rfl, (Ex.refl w)⟩
set_option maxRecDepth 100000 in
set_option maxHeartbeats 2000000 in
theorem c_g_internal_stringslite_IndexByte {w : World} (p_s : Str) (p_c : Int) (o1 : okS p_s) : Cal Try.prog 236 #[.string (bs (p_s)), .int .u8 (p_c)] w fun v w' => v = .int .i64 ((g_internal_stringslite_IndexByte p_s p_c)) ∧ Ex w w' := by
 have hol2 : p_s.length ≤ 1073741824 := o1
 refine Cal.of (vs := [.string (bs (p_s)), .int .u8 (p_c)]) Try.func236 rfl Try.ntmps236 rfl (CW.seq (CW.region (sd rfl (yl_assign rfl rfl (SeqR.done (tn (CW.seq (CW.region (sd rfl (yl_move rfl rfl ?_))))))))))
 refine sd rfl (yl_move rfl rfl (sd rfl (yl_idxB (s := p_s) (c := p_c) Try.ex237 rfl (opvs_cons rfl (opvs_cons rfl opvs_nil)) (sd rfl (yl_assign rfl rfl (SeqR.done (tn (CW.ret (rr rfl (.cons rfl .nil) ?_)))))))))
 have hM3 : (g_internal_stringslite_IndexByte p_s p_c) = (idxB p_s p_c) := by simp only [g_internal_stringslite_IndexByte, cond_true, cond_false, loopE_done, loopE_ret]
 rw [hM3]
 exact ⟨rfl, (Ex.refl w)⟩
set_option maxRecDepth 100000 in
set_option maxHeartbeats 2000000 in
theorem c_g_strings_IndexByte {w : World} (p_s : Str) (p_c : Int) (o1 : okS p_s) : Cal Try.prog 231 #[.string (bs (p_s)), .int .u8 (p_c)] w fun v w' => v = .int .i64 ((g_strings_IndexByte p_s p_c)) ∧ Ex w w' := by
 have hol2 : p_s.length ≤ 1073741824 := o1
 refine Cal.of (vs := [.string (bs (p_s)), .int .u8 (p_c)]) Try.func231 rfl Try.ntmps231 rfl (CW.seq (CW.region (sd rfl (yl_assign rfl rfl (SeqR.done (tn (CW.seq (CW.region (sd rfl (yl_move rfl rfl ?_))))))))))
 refine sd rfl (yl_move rfl rfl (sd rfl (yl_call Try.en236 rfl (opvs_cons rfl (opvs_cons rfl opvs_nil)) (Cal.mono (c_g_internal_stringslite_IndexByte p_s p_c o1) ?_))))
 rintro v4 w3 ⟨rfl, hE5⟩
 have hE5z := Ex.size hE5
 refine sd rfl (yl_assign rfl rfl (SeqR.done (tn (CW.ret (rr rfl (.cons rfl .nil) ?_)))))
 have hM6 : (g_strings_IndexByte p_s p_c) = ((g_internal_stringslite_IndexByte p_s p_c)) := by simp only [g_strings_IndexByte, cond_true, cond_false, loopE_done, loopE_ret]
 rw [hM6]
 exact ⟨rfl, (Ex.trans (Ex.refl w) hE5)⟩
set_option maxRecDepth 100000 in
set_option maxHeartbeats 2000000 in
theorem c_i_hasBytes {w : World} (p_s : Str) (p_others : Str) (o1 : okS p_s) (o2 : okS p_others) : Cal Try.prog 216 #[.string (bs (p_s)), .string (bs (p_others))] w fun v w' => v = .bool ((i_hasBytes p_s p_others)) ∧ Ex w w' := by
 have hol3 : p_s.length ≤ 1073741824 := o1
 have hol4 : p_others.length ≤ 1073741824 := o2
 refine Cal.of (vs := [.string (bs (p_s)), .string (bs (p_others))]) Try.func216 rfl Try.ntmps216 rfl (CW.seq (CW.region (sd rfl (yl_assign rfl rfl (SeqR.done (tn (CW.seq (CW.seq (CW.region ?_)))))))))
 refine sd rfl (yl_move rfl rfl (sd rfl (yl_slen Try.un9 (a := p_s) rfl rfl (sd rfl (yl_move rfl rfl (SeqR.done (tn (CW.block (CW.loop (fun m6 L7 w8 => ∃ (k5 : Nat), m6 = p_s.length - k5 ∧ k5 ≤ p_s.length ∧ w.heap.size ≤ w8.heap.size ∧ lkp L7 0 = some (.string (bs (p_s))) ∧ lkp L7 1 = some (.string (bs (p_others))) ∧ lkp L7 7 = some (.int .i64 ((p_s.length : Int))) ∧ lkp L7 8 = some (.int .i64 ((k5 : Int))) ∧ Ex w w8 ∧ loopM (B_i_hasBytes_0 p_s p_others) (p_s.length - k5) k5 () = loopM (B_i_hasBytes_0 p_s p_others) (p_s.length - 0) 0 ()) (p_s.length - 0) ?_ ?_)))))))))
 ·exact ⟨0, rfl, (by omega), Nat.le_refl _, rfl, rfl, rfl, rfl, (Ex.refl w), rfl⟩
 ·rintro m9 L10 w11 ⟨k5, rfl, hk12, hsz14, hl15, hl16, hl17, hl18, hf19, hI13⟩
  refine CW.sub (Sub.cons hl15 (Sub.cons hl16 (Sub.cons hl17 (Sub.cons hl18 (Sub.nil _))))) ?_
  have hf19z := Ex.size hf19
  have hbg20 : p_s.length ≤ 1073741824 := o1
  rcases Nat.lt_or_ge k5 p_s.length with hlt21 | hlt21
  ·refine CW.seq (CW.region (sd rfl (yl_lss rfl rfl rfl (SeqR.done (tn (CW.seq (CW.cond_t rfl (lt_t hlt21) (CW.skip (tn ?_)))))))))
   refine CW.seq (CW.block (CW.seq (CW.region (sd rfl (yl_move rfl rfl (sd rfl (yl_assign rfl rfl (SeqR.done (tn (CW.seq ?_))))))))))
   refine CW.region (sd rfl (yl_move rfl rfl (sd rfl (yl_move rfl rfl (sd rfl (yl_sindexN Try.un9 (a := p_s) rfl rfl rfl (by first | omega | assumption | (simp only [IntKind.wrap_i64] at *; omega)) (sd rfl (yl_call Try.en230 rfl (opvs_cons rfl opvs_nil) (Cal.mono (c_i_isLowerOrDigit ((p_s.getD k5 0).toNat : Int)) ?_)))))))))
   rintro v23 w22 ⟨rfl, hE24⟩
   have hE24z := Ex.size hE24
   refine sd rfl (yl_not rfl rfl (sd rfl (yl_move rfl rfl (bcase (i_isLowerOrDigit ((p_s.getD k5 0).toNat : Int)) (fun hb25 => ?_) (fun hb25 => ?_)))))
   ·refine sz rfl rfl (not_t hb25) (sz rfl rfl (not_t hb25) (sz rfl rfl (not_t hb25) (sz rfl rfl (not_t hb25) (sz rfl rfl (not_t hb25) (sz rfl rfl (not_t hb25) (sd rfl (yl_pick_f rfl rfl (not_t hb25) rfl (SeqR.done (tn ?_)))))))))
    refine CW.cond_f rfl rfl (CW.skip (bn (tn (CW.region (sd rfl (yl_inc rfl rfl rfl (by omega) (sd rfl (yl_move rfl rfl (SeqR.done (tn ?_))))))))))
    have hB26 : B_i_hasBytes_0 p_s p_others k5 () = .cont () := by simp only [B_i_hasBytes_0, hb25, cond_true, cond_false, loopE_done, loopE_ret]
    exact ⟨p_s.length - (k5 + 1), by omega, k5 + 1, rfl, hlt21, (by omega), rfl, rfl, rfl, rfl, (Ex.trans hf19 hE24), (loopM.cont hlt21 hB26).symm.trans hI13⟩
   ·refine sy rfl rfl (not_f hb25) (yl_move rfl rfl (sy rfl rfl (not_f hb25) (yl_move rfl rfl (sy rfl rfl (not_f hb25) (yl_move rfl rfl (sy rfl rfl (not_f hb25) (yl_sindexN Try.un9 (a := p_s) rfl rfl rfl (by first | omega | assumption | (simp only [IntKind.wrap_i64] at *; omega)) (sy rfl rfl (not_f hb25) (yl_call Try.en231 rfl (opvs_cons rfl (opvs_cons rfl opvs_nil)) (Cal.mono (c_g_strings_IndexByte p_others ((p_s.getD k5 0).toNat : Int) o2) ?_))))))))))
    rintro v29 w28 ⟨rfl, hE30⟩
    have hE30z := Ex.size hE30
    refine sy rfl rfl (not_f hb25) (yl_lss rfl rfl rfl (sd rfl (yl_pick_t rfl rfl (not_f hb25) rfl (SeqR.done (tn (bcase (decide ((g_strings_IndexByte p_others ((p_s.getD k5 0).toNat : Int)) < 0)) (fun hb31 => ?_) (fun hb31 => ?_)))))))
    ·have hb31p := dec_t hb31
     refine CW.cond_t rfl hb31 (CW.seq (CW.region (sd rfl (yl_assign rfl rfl (SeqR.done (tn (CW.ret (br (tr ?_)))))))))
     refine tr ?_
     have hB33 : B_i_hasBytes_0 p_s p_others k5 () = .ret false := by simp only [B_i_hasBytes_0, hb25, hb31, cond_true, cond_false, loopE_done, loopE_ret]
     have hL32 : loopM (B_i_hasBytes_0 p_s p_others) (p_s.length - 0) 0 () = .ret false := hI13.symm.trans (loopM.ret hlt21 hB33)
     refine br (tr (rr rfl (.cons rfl .nil) ?_))
     have hM34 : (i_hasBytes p_s p_others) = (false) := by simp only [i_hasBytes, hb25, hb31, hL32, cond_true, cond_false, loopE_done, loopE_ret]
     rw [hM34]
     exact ⟨rfl, (Ex.trans (Ex.trans hf19 hE24) hE30)⟩
    ·have hb31p := dec_f hb31
     refine CW.cond_f rfl hb31 (CW.skip (bn (tn (CW.region (sd rfl (yl_inc rfl rfl rfl (by omega) (sd rfl (yl_move rfl rfl (SeqR.done (tn ?_))))))))))
     have hB37 : B_i_hasBytes_0 p_s p_others k5 () = .cont () := by simp only [B_i_hasBytes_0, hb25, hb31, cond_true, cond_false, loopE_done, loopE_ret]
     exact ⟨p_s.length - (k5 + 1), by omega, k5 + 1, rfl, hlt21, (by omega), rfl, rfl, rfl, rfl, (Ex.trans (Ex.trans hf19 hE24) hE30), (loopM.cont hlt21 hB37).symm.trans hI13⟩
  ·refine CW.seq (CW.region (sd rfl (yl_lss rfl rfl rfl (SeqR.done (tn (CW.seq (CW.cond_f rfl (lt_f hlt21) (CW.exit (tx ?_)))))))))
   refine tx ?_
   have hL40 : loopM (B_i_hasBytes_0 p_s p_others) (p_s.length - 0) 0 () = .done () := hI13.symm.trans (loopM.stop hlt21)
   refine bx (tn (CW.seq (CW.region (sd rfl (yl_assign rfl rfl (SeqR.done (tn (CW.ret (rr rfl (.cons rfl .nil) ?_)))))))))
   have hM41 : (i_hasBytes p_s p_others) = (true) := by simp only [i_hasBytes, hL40, cond_true, cond_false, loopE_done, loopE_ret]
   rw [hM41]
   exact ⟨rfl, hf19⟩
set_option maxRecDepth 100000 in
set_option maxHeartbeats 2000000 in
theorem c_i_GoodKey {w : World} (p_s : Str) (o1 : okS p_s) : Cal Try.prog 211 #[.string (bs (p_s))] w fun v w' => v = .bool ((i_GoodKey p_s)) ∧ Ex w w' := by
 have hol2 : p_s.length ≤ 1073741824 := o1
 refine Cal.of (vs := [.string (bs (p_s))]) Try.func211 rfl Try.ntmps211 rfl (CW.seq (CW.region (sd rfl (yl_assign rfl rfl (SeqR.done (tn (CW.seq (CW.region (sd rfl (yl_move rfl rfl ?_))))))))))
 refine sd rfl (yl_slen Try.un9 (a := p_s) rfl rfl (sd rfl (yl_call Try.en51 rfl (opvs_cons rfl (opvs_cons rfl (opvs_cons rfl opvs_nil))) (Cal.mono (c_i_within (p_s.length : Int) 1 12) ?_))))
 rintro v4 w3 ⟨rfl, hE5⟩
 have hE5z := Ex.size hE5
 refine sd rfl (yl_move rfl rfl (bcase (i_within (p_s.length : Int) 1 12) (fun hb6 => ?_) (fun hb6 => ?_)))
 ·have hb6p := f_within hb6
  refine sy rfl rfl hb6 (yl_move rfl rfl (sy rfl rfl hb6 (yl_call Try.en216 rfl (opvs_cons rfl (opvs_cons rfl opvs_nil)) (Cal.mono (c_i_hasBytes p_s ([46, 47] : Str) o1 (okS.lit rfl)) ?_))))
  rintro v8 w7 ⟨rfl, hE9⟩
  have hE9z := Ex.size hE9
  refine sd rfl (yl_pick_t rfl rfl hb6 rfl (sd rfl (yl_assign rfl rfl (SeqR.done (tn (CW.ret (rr rfl (.cons rfl .nil) ?_)))))))
  have hM10 : (i_GoodKey p_s) = ((i_hasBytes p_s ([46, 47] : Str))) := by simp only [i_GoodKey, hb6, cond_true, cond_false, loopE_done, loopE_ret]
  rw [hM10]
  exact ⟨rfl, (Ex.trans (Ex.trans (Ex.refl w) hE5) hE9)⟩
 ·refine sz rfl rfl hb6 (sz rfl rfl hb6 (sd rfl (yl_pick_f rfl rfl hb6 rfl (sd rfl (yl_assign rfl rfl (SeqR.done (tn (CW.ret (rr rfl (.cons rfl .nil) ?_)))))))))
  have hM13 : (i_GoodKey p_s) = (false) := by simp only [i_GoodKey, hb6, cond_true, cond_false, loopE_done, loopE_ret]
  rw [hM13]
  exact ⟨rfl, (Ex.trans (Ex.refl w) hE5)⟩
set_option maxRecDepth 100000 in
set_option maxHeartbeats 2000000 in
theorem c_i_areRising {A1 : Option Addr} {c1 : Nat} {w : World} (p_keys : List Str) (h1 : RdS w (Iv 0 w.heap.size) (RF e_Str) 1 A1 p_keys.length c1 p_keys) (o2 : (okL okS) p_keys) : Cal Try.prog 203 #[.slice A1 p_keys.length c1] w fun v w' => v = .bool ((i_areRising p_keys)) ∧ Ex w w' := by
 have hol3 := o2.1
 refine Cal.of (vs := [.slice A1 p_keys.length c1]) Try.func203 rfl Try.ntmps203 rfl (CW.seq (CW.region (sd rfl (yl_assign rfl rfl (SeqR.done (tn (CW.seq (CW.seq (CW.region ?_)))))))))
 refine sd rfl (yl_move rfl rfl (sd rfl (yl_len Try.un45 rfl rfl (sd rfl (yl_move rfl rfl (SeqR.done (tn (CW.block (CW.loop (fun m5 L6 w7 => ∃ (k4 : Nat), m5 = p_keys.length - k4 ∧ k4 ≤ p_keys.length ∧ w.heap.size ≤ w7.heap.size ∧ lkp L6 0 = some (.slice A1 p_keys.length c1) ∧ lkp L6 5 = some (.slice A1 p_keys.length c1) ∧ lkp L6 6 = some (.int .i64 ((p_keys.length : Int))) ∧ lkp L6 7 = some (.int .i64 ((k4 : Int))) ∧ RdS w7 (Iv 0 w.heap.size) (RF e_Str) 1 A1 p_keys.length c1 p_keys ∧ Ex w w7 ∧ loopM (B_i_areRising_0 p_keys) (p_keys.length - k4) k4 () = loopM (B_i_areRising_0 p_keys) (p_keys.length - 0) 0 ()) (p_keys.length - 0) ?_ ?_)))))))))
 ·exact ⟨0, rfl, (by omega), Nat.le_refl _, rfl, rfl, rfl, rfl, h1, (Ex.refl w), rfl⟩
 ·rintro m8 L9 w10 ⟨k4, rfl, hk11, hsz13, hl14, hl15, hl16, hl17, hf18, hf19, hI12⟩
  refine CW.sub (Sub.cons hl14 (Sub.cons hl15 (Sub.cons hl16 (Sub.cons hl17 (Sub.nil _))))) ?_
  have hf19z := Ex.size hf19
  have hbg20 := RdS.big hf18
  rcases Nat.lt_or_ge k4 p_keys.length with hlt21 | hlt21
  ·refine CW.seq (CW.region (sd rfl (yl_lss rfl rfl rfl (SeqR.done (tn (CW.seq (CW.cond_t rfl (lt_t hlt21) (CW.skip (tn ?_)))))))))
   refine CW.seq (CW.block (CW.seq (CW.region (sd rfl (yl_move rfl rfl ?_)))))
   obtain ⟨eb22, eo22, ec22, eA22, eS22, ebl22, el22, eR22, eC22⟩ := RdS.atD hf18 d_Str (i := k4) (by first | omega | assumption)
   obtain rfl := eR22
   have eC22 : Cells w10 eb22 (eo22 + k4 * 1) [.string (bs ((p_keys.getD k4 d_Str)))] := eC22
   refine sd rfl (yl_indexAddrN Try.un45 Try.ty9 rfl rfl rfl eA22 (by first | omega | assumption | (simp only [IntKind.wrap_i64] at *; omega)) (sd rfl (yl_load1 Try.ty9 rfl rfl (eC22 0 _ rfl) (sd rfl (yl_assign rfl rfl (sd rfl (yl_assign rfl rfl (SeqR.done (tn (CW.seq (CW.region (sd rfl (yl_move rfl rfl ?_)))))))))))))
   refine sd rfl (yl_call Try.en211 rfl (opvs_cons rfl opvs_nil) (Cal.mono (c_i_GoodKey (p_keys.getD k4 d_Str) (okL.getD o2 ok_d_Str _)) ?_))
   rintro v24 w23 ⟨rfl, hE25⟩
   have hE25z := Ex.size hE25
   refine sd rfl (yl_not rfl rfl (sd rfl (yl_move rfl rfl (bcase (i_GoodKey (p_keys.getD k4 d_Str)) (fun hb26 => ?_) (fun hb26 => ?_)))))
   ·refine sy rfl rfl (not_t hb26) (yl_move rfl rfl (sy rfl rfl (not_t hb26) (yl_gtr rfl rfl rfl (sy rfl rfl (not_t hb26) (yl_move rfl rfl (bcase (decide (0 < (k4 : Int))) (fun hb27 => ?_) (fun hb27 => ?_)))))))
    ·have hb27p := dec_t hb27
     refine sy rfl rfl hb27 (yl_move rfl rfl (sy rfl rfl hb27 (yl_move rfl rfl (sy rfl rfl hb27 (yl_move rfl rfl (sy rfl rfl hb27 (yl_sub rfl rfl rfl ?_)))))))
     have q28 := RdS.ex good_Str hf18 hE25
     obtain ⟨eb29, eo29, ec29, eA29, eS29, ebl29, el29, eR29, eC29⟩ := RdS.atD q28 d_Str (i := (IntKind.wrap .i64 ((k4 : Int) - 1)).toNat) (by first | omega | assumption | (simp only [IntKind.wrap_i64] at *; omega))
     obtain rfl := eR29
     have eC29 : Cells w23 eb29 (eo29 + ((IntKind.wrap .i64 ((k4 : Int) - 1)).toNat) * 1) [.string (bs ((p_keys.getD ((IntKind.wrap .i64 ((k4 : Int) - 1)).toNat) d_Str)))] := eC29
     refine sy rfl rfl hb27 (yl_indexAddr Try.un45 Try.ty9 rfl rfl rfl eA29 (by first | omega | assumption | (simp only [IntKind.wrap_i64] at *; omega)) (by first | omega | assumption | (simp only [IntKind.wrap_i64] at *; omega)) (sy rfl rfl hb27 (yl_load1 Try.ty9 rfl rfl (eC29 0 _ rfl) (sy rfl rfl hb27 (yl_sleq (a := (p_keys.getD k4 d_Str)) (b := (p_keys.getD ((IntKind.wrap .i64 ((k4 : Int) - 1)).toNat) d_Str)) rfl rfl rfl (sy rfl rfl (not_t hb26) (yl_pick_t rfl rfl hb27 rfl (sd rfl (yl_pick_f rfl rfl (not_t hb26) rfl (SeqR.done (tn (bcase (sLe (p_keys.getD k4 d_Str) (p_keys.getD ((IntKind.wrap .i64 ((k4 : Int) - 1)).toNat) d_Str)) (fun hb30 => ?_) (fun hb30 => ?_)))))))))))))
     ·refine CW.cond_t rfl hb30 (CW.seq (CW.region (sd rfl (yl_assign rfl rfl (SeqR.done (tn (CW.ret (br (tr ?_)))))))))
      refine tr ?_
      have hB32 : B_i_areRising_0 p_keys k4 () = .ret false := by simp only [B_i_areRising_0, hb26, hb27, hb30, cond_true, cond_false, loopE_done, loopE_ret]
      have hL31 : loopM (B_i_areRising_0 p_keys) (p_keys.length - 0) 0 () = .ret false := hI12.symm.trans (loopM.ret hlt21 hB32)
      refine br (tr (rr rfl (.cons rfl .nil) ?_))
      have hM33 : (i_areRising p_keys) = (false) := by simp only [i_areRising, hb26, hb27, hb30, hL31, cond_true, cond_false, loopE_done, loopE_ret]
      rw [hM33]
      exact ⟨rfl, (Ex.trans hf19 hE25)⟩
     ·refine CW.cond_f rfl hb30 (CW.skip (bn (tn (CW.region (sd rfl (yl_inc rfl rfl rfl (by omega) (sd rfl (yl_move rfl rfl (SeqR.done (tn ?_))))))))))
      have hB35 : B_i_areRising_0 p_keys k4 () = .cont () := by simp only [B_i_areRising_0, hb26, hb27, hb30, cond_true, cond_false, loopE_done, loopE_ret]
      exact ⟨p_keys.length - (k4 + 1), by omega, k4 + 1, rfl, hlt21, (by omega), rfl, rfl, rfl, rfl, q28, (Ex.trans hf19 hE25), (loopM.cont hlt21 hB35).symm.trans hI12⟩
    ·have hb27p := dec_f hb27
     refine sz rfl rfl hb27 (sz rfl rfl hb27 (sz rfl rfl hb27 (sz rfl rfl hb27 (sz rfl rfl hb27 (sz rfl rfl hb27 (sz rfl rfl hb27 (sy rfl rfl (not_t hb26) (yl_pick_f rfl rfl hb27 rfl (sd rfl (yl_pick_f rfl rfl (not_t hb26) rfl ?_))))))))))
     refine SeqR.done (tn (CW.cond_f rfl rfl (CW.skip (bn (tn (CW.region (sd rfl (yl_inc rfl rfl rfl (by omega) (sd rfl (yl_move rfl rfl ?_))))))))))
     refine SeqR.done (tn ?_)
     have hB37 : B_i_areRising_0 p_keys k4 () = .cont () := by simp only [B_i_areRising_0, hb26, hb27, cond_true, cond_false, loopE_done, loopE_ret]
     exact ⟨p_keys.length - (k4 + 1), by omega, k4 + 1, rfl, hlt21, (by omega), rfl, rfl, rfl, rfl, (RdS.ex good_Str hf18 hE25), (Ex.trans hf19 hE25), (loopM.cont hlt21 hB37).symm.trans hI12⟩
   ·refine sz rfl rfl (not_f hb26) (sz rfl rfl (not_f hb26) (sz rfl rfl (not_f hb26) (sq rfl rfl (sq rfl rfl (sq rfl rfl (sq rfl rfl (sq rfl rfl (sq rfl rfl ?_))))))))
    refine sq rfl rfl (sz rfl rfl (not_f hb26) (sd rfl (yl_pick_t rfl rfl (not_f hb26) rfl (SeqR.done (tn (CW.cond_t rfl rfl (CW.seq (CW.region (sd rfl (yl_assign rfl rfl ?_))))))))))
    refine SeqR.done (tn (CW.ret (br (tr (tr ?_)))))
    have hB41 : B_i_areRising_0 p_keys k4 () = .ret false := by simp only [B_i_areRising_0, hb26, cond_true, cond_false, loopE_done, loopE_ret]
    have hL40 : loopM (B_i_areRising_0 p_keys) (p_keys.length - 0) 0 () = .ret false := hI12.symm.trans (loopM.ret hlt21 hB41)
    refine br (tr (rr rfl (.cons rfl .nil) ?_))
    have hM42 : (i_areRising p_keys) = (false) := by simp only [i_areRising, hb26, hL40, cond_true, cond_false, loopE_done, loopE_ret]
    rw [hM42]
    exact ⟨rfl, (Ex.trans hf19 hE25)⟩
  ·refine CW.seq (CW.region (sd rfl (yl_lss rfl rfl rfl (SeqR.done (tn (CW.seq (CW.cond_f rfl (lt_f hlt21) (CW.exit (tx ?_)))))))))
   refine tx ?_
   have hL44 : loopM (B_i_areRising_0 p_keys) (p_keys.length - 0) 0 () = .done () := hI12.symm.trans (loopM.stop hlt21)
   refine bx (tn (CW.seq (CW.region (sd rfl (yl_assign rfl rfl (SeqR.done (tn (CW.ret (rr rfl (.cons rfl .nil) ?_)))))))))
   have hM45 : (i_areRising p_keys) = (true) := by simp only [i_areRising, hL44, cond_true, cond_false, loopE_done, loopE_ret]
   rw [hM45]
   exact ⟨rfl, hf19⟩
set_option maxRecDepth 100000 in
set_option maxHeartbeats 2000000 in
theorem c_i_writeKeys {A1 : Option Addr} {c1 : Nat} {w : World} (p_l : List DWrite) (h1 : RdS w (Iv 0 w.heap.size) (RF e_Write) 3 A1 p_l.length c1 p_l) (o2 : (okL ok_Write) p_l) : Cal Try.prog 204 #[.slice A1 p_l.length c1] w fun v w' => ∃ A_1 c_1 lo_1 hi_1, v = .slice A_1 ((i_writeKeys p_l).length) c_1 ∧ OwnL w' lo_1 hi_1 9 1 (RF e_Str) A_1 ((i_writeKeys p_l).length) c_1 (i_writeKeys p_l) ∧ (okL okS) (i_writeKeys p_l) ∧ (w.heap.size ≤ lo_1 ∧ lo_1 ≤ hi_1 ∧ hi_1 ≤ w'.heap.size) ∧ Ex w w' := by
 have hol3 := o2.1
 refine Cal.of (vs := [.slice A1 p_l.length c1]) Try.func204 rfl Try.ntmps204 rfl (CW.seq (CW.region (sd rfl (yl_assign rfl rfl (SeqR.done (tn (CW.seq (CW.region (sd rfl (yl_buildSlice (cs := []) Try.un45 Try.ty9 (by decide) rfl opvs_nil (by kernel_rfl) ?_))))))))))
 intro b4 w5 hs6 hz7 hB8 hE9
 have hO10 : OwnL w5 b4 (b4 + 1) 9 1 (RF e_Str) (some ⟨b4, 0, none⟩) 0 0 ([] : List Str) := OwnL.of_box (S := fun _ => False) hB8 (Nat.le_refl _) (Nat.lt_succ_self _) EncL.nil (Nat.le_of_ble_eq_true rfl) (fun h => h) (fun _ h => False.elim h)
 refine sd rfl (yl_assign rfl rfl (SeqR.done (tn (CW.seq (CW.seq (CW.region (sd rfl (yl_move rfl rfl (sd rfl (yl_len Try.un89 rfl rfl (sd rfl (yl_move rfl rfl ?_))))))))))))
 refine SeqR.done (tn (CW.block (CW.loop (fun m65 L66 w67 => ∃ (k11 : Nat) (x61 : List Str) (A62 : Option Addr) (c63 : Nat) (u64 : Nat), m65 = p_l.length - k11 ∧ k11 ≤ p_l.length ∧ w5.heap.size ≤ w67.heap.size ∧ lkp L66 3 = some (.slice A62 x61.length c63) ∧ lkp L66 7 = some (.slice A1 p_l.length c1) ∧ lkp L66 8 = some (.int .i64 ((p_l.length : Int))) ∧ lkp L66 9 = some (.int .i64 ((k11 : Int))) ∧ OwnL w67 b4 u64 9 1 (RF e_Str) A62 x61.length c63 x61 ∧ RdS w67 (Iv 0 w.heap.size) (RF e_Write) 3 A1 p_l.length c1 p_l ∧ Ex w w67 ∧ (b4 ≤ u64 ∧ u64 ≤ w67.heap.size) ∧ x61.length ≤ 0 + 1 * (k11 - 0) ∧ (∀ y ∈ x61, okS y) ∧ loopM (B_i_writeKeys_0 p_l) (p_l.length - k11) k11 (x61) = loopM (B_i_writeKeys_0 p_l) (p_l.length - 0) 0 (([] : List Str))) (p_l.length - 0) ?_ ?_)))
 ·exact ⟨0, ([] : List Str), (some ⟨b4, 0, none⟩), 0, (b4 + 1), rfl, (by omega), Nat.le_refl _, rfl, rfl, rfl, rfl, hO10, (RdS.ex good_Write h1 hE9), (Ex.trans (Ex.refl w) hE9), (by omega), (by first | (simp; done) | (first | omega | (simp only [List.length_append, List.length_cons, List.length_nil, List.length_set]; omega))), okE.nil, rfl⟩
 ·rintro m70 L71 w72 ⟨k11, x61, A62, c63, u64, rfl, hk73, hsz75, hl76, hl77, hl78, hl79, hf80, hf81, hf82, hu83, hln84, hok85, hI74⟩
  refine CW.sub (Sub.cons hl76 (Sub.cons hl77 (Sub.cons hl78 (Sub.cons hl79 (Sub.nil _))))) ?_
  have hf82z := Ex.size hf82
  have hbg86 := RdS.big hf81
  rcases Nat.lt_or_ge k11 p_l.length with hlt87 | hlt87
  ·refine CW.seq (CW.region (sd rfl (yl_lss rfl rfl rfl (SeqR.done (tn (CW.seq (CW.cond_t rfl (lt_t hlt87) (CW.skip (tn ?_)))))))))
   refine CW.seq (CW.block (CW.seq (CW.region ?_)))
   obtain ⟨eb88, eo88, ec88, eA88, eS88, ebl88, el88, eR88, eC88⟩ := RdS.atD hf81 d_Write (i := k11) (by first | omega | assumption)
   obtain rfl := eR88
   have eC88 : Cells w72 eb88 (eo88 + k11 * 3) [.string (bs ((p_l.getD k11 d_Write).Key)), .string (bs ((p_l.getD k11 d_Write).Val)), .bool ((p_l.getD k11 d_Write).Gone)] := eC88
   refine sd rfl (yl_indexAddrN Try.un89 Try.ty54 rfl rfl rfl eA88 (by first | omega | assumption | (simp only [IntKind.wrap_i64] at *; omega)) (sd rfl (yl_loadN (cs := [.string (bs ((p_l.getD k11 d_Write).Key)), .string (bs ((p_l.getD k11 d_Write).Val)), .bool ((p_l.getD k11 d_Write).Gone)]) Try.ty54 rfl rfl eC88 rfl (sd rfl (yl_alloc Try.ty54 (cs := [.string (bs (([] : Str))), .string (bs (([] : Str))), .bool (false)]) rfl rfl ?_)))))
   intro b89 w90 hs91 hz92 hB93 hE94
   refine SeqR.u rfl rfl (yl_store (vs := [.string (bs ((p_l.getD k11 d_Write).Key)), .string (bs ((p_l.getD k11 d_Write).Val)), .bool ((p_l.getD k11 d_Write).Gone)]) Try.ty54 rfl rfl rfl rfl rfl rfl hB93 (Nat.le_of_ble_eq_true rfl) ?_)
   intro w95 hB96 hO97
   have hB96 : Box w95 b89 54 [.string (bs ((p_l.getD k11 d_Write).Key)), .string (bs ((p_l.getD k11 d_Write).Val)), .bool ((p_l.getD k11 d_Write).Gone)] := hB96
   have hO97z := hO97.size
   refine SeqR.done (tn (CW.region (sd rfl (yl_move rfl rfl (sd rfl (yl_fieldAddr Try.fd54_0 rfl rfl (sd rfl (yl_load1 Try.ty9 rfl rfl ((hB96.cell 0).trans rfl) (sd rfl (yl_buildSlice (cs := [.string (bs ((p_l.getD k11 d_Write).Key))]) Try.un45 Try.ty9 (by decide) rfl (opvs_cons rfl opvs_nil) (by kernel_rfl) ?_))))))))))
   intro b98 w99 hs100 hz101 hB102 hE103
   have hO104 : OwnL w99 b98 (b98 + 1) 9 1 (RF e_Str) (some ⟨b98, 0, none⟩) 1 1 ([(p_l.getD k11 d_Write).Key] : List Str) := OwnL.of_box (S := fun _ => False) hB102 (Nat.le_refl _) (Nat.lt_succ_self _) (EncL.cons (c := [.string (bs ((p_l.getD k11 d_Write).Key))]) rfl rfl EncL.nil) (Nat.le_of_ble_eq_true rfl) (fun h => h) (fun _ h => False.elim h)
   refine sd rfl (yl_appendL (S := (fun _ => False)) (lo := b4) (hi := u64) (xs := x61) (ys := ([(p_l.getD k11 d_Write).Key] : List Str)) good_Str Try.un45 Try.ty9 rfl (Nat.le_of_ble_eq_true rfl) rfl rfl rfl (OwnL.ex good_Str (OwnL.only good_Str (OwnL.ex good_Str hf80 hE94) hO97 (by omega)) hE103) (EncL.cons (c := [.string (bs ((p_l.getD k11 d_Write).Key))]) rfl rfl EncL.nil) (Or.inr ⟨_, _, rfl, rfl, hB102.cells (o := 0) (n := 1) rfl⟩) rfl (by first | omega | (simp only [List.length_append, List.length_cons, List.length_nil, List.length_take, List.length_drop, List.length_replicate, List.length_set]; omega)) (by first | omega | (simp only [List.length_append, List.length_cons, List.length_nil, List.length_take, List.length_drop, List.length_replicate, List.length_set]; omega)) (by omega) (by omega) (fun _ h _ => False.elim h) (by omega) ?_)
   intro A108 c109 w110 row111 hO112 hG113 hrg114
   have hG113z := hG113.size
   refine sd rfl (yl_assign rfl rfl (SeqR.done (bn (tn (CW.region (sd rfl (yl_inc rfl rfl rfl (by omega) (sd rfl (yl_move rfl rfl (SeqR.done (tn ?_)))))))))))
   have hB115 : B_i_writeKeys_0 p_l k11 (x61) = .cont ((x61 ++ ([(p_l.getD k11 d_Write).Key] : List Str))) := by simp only [B_i_writeKeys_0, cond_true, cond_false, loopE_done, loopE_ret]
   exact ⟨p_l.length - (k11 + 1), by omega, k11 + 1, (x61 ++ ([(p_l.getD k11 d_Write).Key] : List Str)), A108, c109, w110.heap.size, rfl, hlt87, (by omega), rfl, rfl, rfl, rfl, hO112, (RdS.grown good_Write (RdS.ex good_Write (RdS.only good_Write (RdS.ex good_Write hf81 hE94) hO97 (by simp only [Iv]; omega)) hE103) hG113 (fun k hk => by have := hrg114 k hk; simp only [Iv]; omega)), (Below.grown (Ex.trans (Below.only (Ex.trans hf82 hE94) hO97 (by omega)) hE103) hG113 (by omega) (fun k hk => by have := hrg114 k hk; omega)), (by omega), (by first | omega | (simp only [List.length_append, List.length_cons, List.length_nil, List.length_set]; omega)), (okE.append hok85 ((okL.mk (Nat.le_of_ble_eq_true rfl) (okE.cons (okL.getD o2 ok_d_Write _).1 okE.nil))).2), (loopM.cont hlt87 hB115).symm.trans hI74⟩
  ·refine CW.seq (CW.region (sd rfl (yl_lss rfl rfl rfl (SeqR.done (tn (CW.seq (CW.cond_f rfl (lt_f hlt87) (CW.exit (tx ?_)))))))))
   refine tx ?_
   have hL124 : loopM (B_i_writeKeys_0 p_l) (p_l.length - 0) 0 (([] : List Str)) = .done (x61) := hI74.symm.trans (loopM.stop hlt87)
   refine bx (tn (CW.seq (CW.region (sd rfl (yl_move rfl rfl (sd rfl (yl_assign rfl rfl (SeqR.done (tn (CW.ret ?_))))))))))
   refine rr rfl (.cons rfl .nil) ?_
   have hM125 : (i_writeKeys p_l) = (x61) := by simp only [i_writeKeys, hL124, cond_true, cond_false, loopE_done, loopE_ret]
   rw [hM125]
   exact ⟨A62, c63, b4, u64, rfl, hf80, (okL.mk (xs := x61) (by first | omega | (simp only [List.length_append, List.length_cons, List.length_nil, List.length_take, List.length_drop, List.length_replicate, List.length_set]; omega)) hok85), (by omega), hf82⟩
set_option maxRecDepth 100000 in
set_option maxHeartbeats 2000000 in
theorem c_i_GoodVal {w : World} (p_s : Str) (o1 : okS p_s) : Cal Try.prog 226 #[.string (bs (p_s))] w fun v w' => v = .bool ((i_GoodVal p_s)) ∧ Ex w w' := by
 have hol2 : p_s.length ≤ 1073741824 := o1
 refine Cal.of (vs := [.string (bs (p_s))]) Try.func226 rfl Try.ntmps226 rfl (CW.seq (CW.region (sd rfl (yl_assign rfl rfl (SeqR.done (tn (CW.seq (CW.region (sd rfl (yl_move rfl rfl ?_))))))))))
 refine sd rfl (yl_slen Try.un9 (a := p_s) rfl rfl (sd rfl (yl_leq rfl rfl rfl (sd rfl (yl_move rfl rfl (bcase (decide ((p_s.length : Int) ≤ 24)) (fun hb3 => ?_) (fun hb3 => ?_)))))))
 ·have hb3p := dec_t hb3
  refine sy rfl rfl hb3 (yl_move rfl rfl (sy rfl rfl hb3 (yl_call Try.en216 rfl (opvs_cons rfl (opvs_cons rfl opvs_nil)) (Cal.mono (c_i_hasBytes p_s ([46, 45, 44, 95] : Str) o1 (okS.lit rfl)) ?_))))
  rintro v5 w4 ⟨rfl, hE6⟩
  have hE6z := Ex.size hE6
  refine sd rfl (yl_pick_t rfl rfl hb3 rfl (sd rfl (yl_assign rfl rfl (SeqR.done (tn (CW.ret (rr rfl (.cons rfl .nil) ?_)))))))
  have hM7 : (i_GoodVal p_s) = ((i_hasBytes p_s ([46, 45, 44, 95] : Str))) := by simp only [i_GoodVal, hb3, cond_true, cond_false, loopE_done, loopE_ret]
  rw [hM7]
  exact ⟨rfl, (Ex.trans (Ex.refl w) hE6)⟩
 ·have hb3p := dec_f hb3
  refine sz rfl rfl hb3 (sz rfl rfl hb3 (sd rfl (yl_pick_f rfl rfl hb3 rfl (sd rfl (yl_assign rfl rfl (SeqR.done (tn (CW.ret (rr rfl (.cons rfl .nil) ?_)))))))))
  have hM9 : (i_GoodVal p_s) = (false) := by simp only [i_GoodVal, hb3, cond_true, cond_false, loopE_done, loopE_ret]
  rw [hM9]
  exact ⟨rfl, (Ex.refl w)⟩
set_option maxRecDepth 100000 in
set_option maxHeartbeats 2000000 in
theorem c_i_isStored {w : World} (p_val : Str) (p_gone : Bool) (o1 : okS p_val) : Cal Try.prog 206 #[.string (bs (p_val)), .bool (p_gone)] w fun v w' => v = .bool ((i_isStored p_val p_gone)) ∧ Ex w w' := by
 have hol2 : p_val.length ≤ 1073741824 := o1
 refine Cal.of (vs := [.string (bs (p_val)), .bool (p_gone)]) Try.func206 rfl Try.ntmps206 rfl (CW.seq (CW.region (sd rfl (yl_assign rfl rfl (SeqR.done (tn (CW.seq (CW.region (sd rfl (yl_move rfl rfl ?_))))))))))
 refine sd rfl (yl_call Try.en226 rfl (opvs_cons rfl opvs_nil) (Cal.mono (c_i_GoodVal p_val o1) ?_))
 rintro v4 w3 ⟨rfl, hE5⟩
 have hE5z := Ex.size hE5
 refine sd rfl (yl_move rfl rfl (bcase (i_GoodVal p_val) (fun hb6 => ?_) (fun hb6 => ?_)))
 ·refine sy rfl rfl hb6 (yl_move rfl rfl (sy rfl rfl hb6 (yl_move rfl rfl (bcase (p_gone) (fun hb7 => ?_) (fun hb7 => ?_)))))
  ·refine sy rfl rfl hb7 (yl_move rfl rfl (sy rfl rfl hb7 (yl_sneq (a := p_val) (b := ([] : Str)) rfl rfl rfl (sy rfl rfl hb6 (yl_pick_t rfl rfl hb7 rfl (sy rfl rfl hb6 (yl_not rfl rfl (sd rfl (yl_pick_t rfl rfl hb6 rfl (sd rfl (yl_assign rfl rfl (SeqR.done (tn (CW.ret ?_))))))))))))))
   refine rr rfl (.cons rfl .nil) ?_
   have hM8 : (i_isStored p_val p_gone) = (!(!(p_val == ([] : Str)))) := by simp only [i_isStored, hb6, hb7, cond_true, cond_false, loopE_done, loopE_ret]
   rw [hM8]
   exact ⟨rfl, (Ex.trans (Ex.refl w) hE5)⟩
  ·refine sz rfl rfl hb7 (sz rfl rfl hb7 (sy rfl rfl hb6 (yl_pick_f rfl rfl hb7 rfl (sy rfl rfl hb6 (yl_not rfl rfl (sd rfl (yl_pick_t rfl rfl hb6 rfl (sd rfl (yl_assign rfl rfl (SeqR.done (tn (CW.ret ?_))))))))))))
   refine rr rfl (.cons rfl .nil) ?_
   have hM10 : (i_isStored p_val p_gone) = (!false) := by simp only [i_isStored, hb6, hb7, cond_true, cond_false, loopE_done, loopE_ret]
   rw [hM10]
   exact ⟨rfl, (Ex.trans (Ex.refl w) hE5)⟩
 ·refine sz rfl rfl hb6 (sz rfl rfl hb6 (sq rfl rfl (sq rfl rfl (sz rfl rfl hb6 (sz rfl rfl hb6 (sd rfl (yl_pick_f rfl rfl hb6 rfl (sd rfl (yl_assign rfl rfl (SeqR.done ?_))))))))))
  refine tn (CW.ret (rr rfl (.cons rfl .nil) ?_))
  have hM12 : (i_isStored p_val p_gone) = (false) := by simp only [i_isStored, hb6, cond_true, cond_false, loopE_done, loopE_ret]
  rw [hM12]
  exact ⟨rfl, (Ex.trans (Ex.refl w) hE5)⟩
set_option maxRecDepth 100000 in
set_option maxHeartbeats 2000000 in
theorem c_i_GoodWrites_c1 {w : World} (p_w : DWrite) (o1 : ok_Write p_w) : Cal Try.prog 205 #[.agg #[.string (bs (p_w.Key)), .string (bs (p_w.Val)), .bool (p_w.Gone)]] w fun v w' => v = .bool ((i_GoodWrites_c1 p_w)) ∧ Ex w w' := by
 have hol2 : p_w.Key.length ≤ 1073741824 := o1.1
 have hol3 : p_w.Val.length ≤ 1073741824 := o1.2
 refine Cal.of (vs := [.agg #[.string (bs (p_w.Key)), .string (bs (p_w.Val)), .bool (p_w.Gone)]]) Try.func205 rfl Try.ntmps205 rfl (CW.seq (CW.region (sd rfl (yl_box (cs := [.string (bs (p_w.Key)), .string (bs (p_w.Val)), .bool (p_w.Gone)]) rfl rfl rfl ?_))))
 intro b4 w5 hs6 hz7 hB8 hE9
 refine sd rfl (yl_assign rfl rfl (SeqR.done (tn (CW.seq (CW.region (sd rfl (yl_fieldAddr Try.fd54_1 rfl rfl (sd rfl (yl_load1 Try.ty9 rfl rfl ((hB8.cell 1).trans rfl) (sd rfl (yl_fieldAddr Try.fd54_2 rfl rfl (sd rfl (yl_load1 Try.ty4 rfl rfl ((hB8.cell 2).trans rfl) ?_)))))))))))))
 refine sd rfl (yl_call Try.en206 rfl (opvs_cons rfl (opvs_cons rfl opvs_nil)) (Cal.mono (c_i_isStored p_w.Val p_w.Gone o1.2) ?_))
 rintro v11 w10 ⟨rfl, hE12⟩
 have hE12z := Ex.size hE12
 refine sd rfl (yl_not rfl rfl (sd rfl (yl_assign rfl rfl (SeqR.done (tn (CW.ret (rr rfl (.cons rfl .nil) ?_)))))))
 have hM13 : (i_GoodWrites_c1 p_w) = (!(i_isStored p_w.Val p_w.Gone)) := by simp only [i_GoodWrites_c1, cond_true, cond_false, loopE_done, loopE_ret]
 rw [hM13]
 exact ⟨rfl, (Ex.trans (Ex.trans (Ex.refl w) hE9) hE12)⟩
set_option maxRecDepth 100000 in
set_option maxHeartbeats 2000000 in
theorem c_i_GoodWrites {A1 : Option Addr} {c1 : Nat} {w : World} (p_l : List DWrite) (h1 : RdS w (Iv 0 w.heap.size) (RF e_Write) 3 A1 p_l.length c1 p_l) (o2 : (okL ok_Write) p_l) : Cal Try.prog 165 #[.slice A1 p_l.length c1] w fun v w' => v = .bool ((i_GoodWrites p_l)) ∧ Ex w w' := by
 have hol3 := o2.1
 refine Cal.of (vs := [.slice A1 p_l.length c1]) Try.func165 rfl Try.ntmps165 rfl (CW.seq (CW.region (sd rfl (yl_assign rfl rfl (SeqR.done (tn (CW.seq (CW.region (sd rfl (yl_move rfl rfl ?_))))))))))
 refine sd rfl (yl_len Try.un89 rfl rfl (sd rfl (yl_leq rfl rfl rfl (sd rfl (yl_move rfl rfl (bcase (decide ((p_l.length : Int) ≤ 24)) (fun hb4 => ?_) (fun hb4 => ?_)))))))
 ·have hb4p := dec_t hb4
  refine sy rfl rfl hb4 (yl_move rfl rfl (sy rfl rfl hb4 (yl_call Try.en204 rfl (opvs_cons rfl opvs_nil) (Cal.mono (c_i_writeKeys p_l (RdS.up h1 good_Write) o2) ?_))))
  rintro v8 w5 ⟨A6, c6, lo6, hi6, rfl, h6, ho7, hrn10, hE9⟩
  have hE9z := Ex.size hE9
  refine sy rfl rfl hb4 (yl_call Try.en203 rfl (opvs_cons rfl opvs_nil) (Cal.mono (c_i_areRising (i_writeKeys p_l) (RdS.up (OwnL.rd good_Str h6) good_Str) ho7) ?_))
  rintro v13 w12 ⟨rfl, hE14⟩
  have hE14z := Ex.size hE14
  refine sd rfl (yl_pick_t rfl rfl hb4 rfl (sd rfl (yl_move rfl rfl (bcase (i_areRising (i_writeKeys p_l)) (fun hb15 => ?_) (fun hb15 => ?_)))))
  ·refine sy rfl rfl hb15 (yl_move rfl rfl (sy rfl rfl hb15 (yl_call Try.en166 rfl (opvs_cons rfl (opvs_cons rfl opvs_nil)) (Cal.mono (c_g_slices_ContainsFunc_Write p_l (fun y0 => i_GoodWrites_c1 y0) (RdS.up (RdS.ex good_Write (RdS.ex good_Write h1 hE9) hE14) good_Write) Try.en205 (fun _ y0 => fun hE hm0 ov0 => c_i_GoodWrites_c1 y0 ov0) o2) ?_))))
   rintro v19 w18 ⟨rfl, hE20⟩
   have hE20z := Ex.size hE20
   refine sy rfl rfl hb15 (yl_not rfl rfl (sd rfl (yl_pick_t rfl rfl hb15 rfl (sd rfl (yl_assign rfl rfl (SeqR.done (tn (CW.ret (rr rfl (.cons rfl .nil) ?_)))))))))
   have hM21 : (i_GoodWrites p_l) = (!(g_slices_ContainsFunc_Write p_l (fun y0 => i_GoodWrites_c1 y0))) := by simp only [i_GoodWrites, hb4, hb15, cond_true, cond_false, loopE_done, loopE_ret]
   rw [hM21]
   exact ⟨rfl, (Ex.trans (Ex.trans (Ex.trans (Ex.refl w) hE9) hE14) hE20)⟩
  ·refine sz rfl rfl hb15 (sz rfl rfl hb15 (sz rfl rfl hb15 (sd rfl (yl_pick_f rfl rfl hb15 rfl (sd rfl (yl_assign rfl rfl (SeqR.done (tn (CW.ret (rr rfl (.cons rfl .nil) ?_))))))))))
   have hM25 : (i_GoodWrites p_l) = (false) := by simp only [i_GoodWrites, hb4, hb15, cond_true, cond_false, loopE_done, loopE_ret]
   rw [hM25]
   exact ⟨rfl, (Ex.trans (Ex.trans (Ex.refl w) hE9) hE14)⟩
 ·have hb4p := dec_f hb4
  refine sz rfl rfl hb4 (sz rfl rfl hb4 (sz rfl rfl hb4 (sd rfl (yl_pick_f rfl rfl hb4 rfl (sd rfl (yl_move rfl rfl (sz rfl rfl rfl (sz rfl rfl rfl (sz rfl rfl rfl (sd rfl (yl_pick_f rfl rfl rfl rfl ?_)))))))))))
  refine sd rfl (yl_assign rfl rfl (SeqR.done (tn (CW.ret (rr rfl (.cons rfl .nil) ?_)))))
  have hM28 : (i_GoodWrites p_l) = (false) := by simp only [i_GoodWrites, hb4, cond_true, cond_false, loopE_done, loopE_ret]
  rw [hM28]
  exact ⟨rfl, (Ex.refl w)⟩
set_option maxRecDepth 100000 in
set_option maxHeartbeats 2000000 in
theorem c_i_isRows_c1 {w : World} (p_w : DWrite) (o1 : ok_Write p_w) : Cal Try.prog 167 #[.agg #[.string (bs (p_w.Key)), .string (bs (p_w.Val)), .bool (p_w.Gone)]] w fun v w' => v = .bool ((i_isRows_c1 p_w)) ∧ Ex w w' := by
 have hol2 : p_w.Key.length ≤ 1073741824 := o1.1
 have hol3 : p_w.Val.length ≤ 1073741824 := o1.2
 refine Cal.of (vs := [.agg #[.string (bs (p_w.Key)), .string (bs (p_w.Val)), .bool (p_w.Gone)]]) Try.func167 rfl Try.ntmps167 rfl (CW.seq (CW.region (sd rfl (yl_box (cs := [.string (bs (p_w.Key)), .string (bs (p_w.Val)), .bool (p_w.Gone)]) rfl rfl rfl ?_))))
 intro b4 w5 hs6 hz7 hB8 hE9
 refine sd rfl (yl_assign rfl rfl (SeqR.done (tn (CW.seq (CW.region (sd rfl (yl_fieldAddr Try.fd54_2 rfl rfl (sd rfl (yl_load1 Try.ty4 rfl rfl ((hB8.cell 2).trans rfl) (sd rfl (yl_assign rfl rfl (SeqR.done ?_))))))))))))
 refine tn (CW.ret (rr rfl (.cons rfl .nil) ?_))
 have hM10 : (i_isRows_c1 p_w) = (p_w.Gone) := by simp only [i_isRows_c1, cond_true, cond_false, loopE_done, loopE_ret]
 rw [hM10]
 exact ⟨rfl, (Ex.trans (Ex.refl w) hE9)⟩
set_option maxRecDepth 100000 in
set_option maxHeartbeats 2000000 in
theorem c_i_isRows {A1 : Option Addr} {c1 : Nat} {w : World} (p_rows : List DWrite) (h1 : RdS w (Iv 0 w.heap.size) (RF e_Write) 3 A1 p_rows.length c1 p_rows) (o2 : (okL ok_Write) p_rows) : Cal Try.prog 105 #[.slice A1 p_rows.length c1] w fun v w' => v = .bool ((i_isRows p_rows)) ∧ Ex w w' := by
 have hol3 := o2.1
 refine Cal.of (vs := [.slice A1 p_rows.length c1]) Try.func105 rfl Try.ntmps105 rfl (CW.seq (CW.region (sd rfl (yl_assign rfl rfl (SeqR.done (tn (CW.seq (CW.region (sd rfl (yl_move rfl rfl ?_))))))))))
 refine sd rfl (yl_call Try.en165 rfl (opvs_cons rfl opvs_nil) (Cal.mono (c_i_GoodWrites p_rows (RdS.up h1 good_Write) o2) ?_))
 rintro v5 w4 ⟨rfl, hE6⟩
 have hE6z := Ex.size hE6
 refine sd rfl (yl_move rfl rfl (bcase (i_GoodWrites p_rows) (fun hb7 => ?_) (fun hb7 => ?_)))
 ·refine sy rfl rfl hb7 (yl_move rfl rfl (sy rfl rfl hb7 (yl_call Try.en166 rfl (opvs_cons rfl (opvs_cons rfl opvs_nil)) (Cal.mono (c_g_slices_ContainsFunc_Write p_rows (fun y0 => i_isRows_c1 y0) (RdS.up (RdS.ex good_Write h1 hE6) good_Write) Try.en167 (fun _ y0 => fun hE hm0 ov0 => c_i_isRows_c1 y0 ov0) o2) ?_))))
  rintro v10 w9 ⟨rfl, hE11⟩
  have hE11z := Ex.size hE11
  refine sy rfl rfl hb7 (yl_not rfl rfl (sd rfl (yl_pick_t rfl rfl hb7 rfl (sd rfl (yl_assign rfl rfl (SeqR.done (tn (CW.ret (rr rfl (.cons rfl .nil) ?_)))))))))
  have hM12 : (i_isRows p_rows) = (!(g_slices_ContainsFunc_Write p_rows (fun y0 => i_isRows_c1 y0))) := by simp only [i_isRows, hb7, cond_true, cond_false, loopE_done, loopE_ret]
  rw [hM12]
  exact ⟨rfl, (Ex.trans (Ex.trans (Ex.refl w) hE6) hE11)⟩
 ·refine sz rfl rfl hb7 (sz rfl rfl hb7 (sz rfl rfl hb7 (sd rfl (yl_pick_f rfl rfl hb7 rfl (sd rfl (yl_assign rfl rfl (SeqR.done (tn (CW.ret (rr rfl (.cons rfl .nil) ?_))))))))))
  have hM15 : (i_isRows p_rows) = (false) := by simp only [i_isRows, hb7, cond_true, cond_false, loopE_done, loopE_ret]
  rw [hM15]
  exact ⟨rfl, (Ex.trans (Ex.refl w) hE6)⟩
set_option maxRecDepth 100000 in
set_option maxHeartbeats 2000000 in
theorem c_g_slices_IndexFunc_Table {A1 : Option Addr} {c1 : Nat} {g3 : Nat} {cp4 : List Value} {w : World} (p_s : List DTable) (p_f : DTable → Bool) (h1 : RdS w (Iv 0 w.heap.size) R_Table 3 A1 p_s.length c1 p_s) (hen5 : Enters Try.prog g3) (hfn6 : ∀ (w1 : World) (y0 : DTable) {A7 : Option Addr} {c7 : Nat} {A8 : Option Addr} {c8 : Nat}, Ex w w1 → y0 ∈ p_s → RdS w1 (Iv 0 w1.heap.size) (RF e_Str) 1 A7 y0.Cols.length c7 y0.Cols → RdS w1 (Iv 0 w1.heap.size) (RF e_Idx) 3 A8 y0.Idxs.length c8 y0.Idxs → ok_Table y0 → Cal Try.prog g3 (([.agg #[.string (bs (y0.Name)), .slice A7 y0.Cols.length c7, .slice A8 y0.Idxs.length c8]] : List Value) ++ cp4).toArray w1 fun v w2 => v = .bool (p_f y0) ∧ Ex w1 w2) (o2 : (okL ok_Table) p_s) : Cal Try.prog 195 #[.slice A1 p_s.length c1, .func (.func g3) #[] cp4.toArray] w fun v w' => v = .int .i64 ((g_slices_IndexFunc_Table p_s p_f)) ∧ Ex w w' := by
 have hol9 := o2.1
 refine Cal.of (vs := [.slice A1 p_s.length c1, .func (.func g3) #[] cp4.toArray]) Try.func195 rfl Try.ntmps195 rfl (CW.seq (CW.region (sd rfl (yl_assign rfl rfl (SeqR.done (tn (CW.seq (CW.seq (CW.region ?_)))))))))
 refine sd rfl (yl_move rfl rfl (sd rfl (yl_len Try.un88 rfl rfl (sd rfl (yl_move rfl rfl (SeqR.done (tn (CW.block (CW.loop (fun m11 L12 w13 => ∃ (k10 : Nat), m11 = p_s.length - k10 ∧ k10 ≤ p_s.length ∧ w.heap.size ≤ w13.heap.size ∧ lkp L12 0 = some (.slice A1 p_s.length c1) ∧ lkp L12 1 = some (.func (.func g3) #[] cp4.toArray) ∧ lkp L12 7 = some (.int .i64 ((p_s.length : Int))) ∧ lkp L12 8 = some (.int .i64 ((k10 : Int))) ∧ RdS w13 (Iv 0 w.heap.size) R_Table 3 A1 p_s.length c1 p_s ∧ Ex w w13 ∧ loopM (B_g_slices_IndexFunc_Table_0 p_s p_f) (p_s.length - k10) k10 () = loopM (B_g_slices_IndexFunc_Table_0 p_s p_f) (p_s.length - 0) 0 ()) (p_s.length - 0) ?_ ?_)))))))))
 ·exact ⟨0, rfl, (by omega), Nat.le_refl _, rfl, rfl, rfl, rfl, h1, (Ex.refl w), rfl⟩
 ·rintro m14 L15 w16 ⟨k10, rfl, hk17, hsz19, hl20, hl21, hl22, hl23, hf24, hf25, hI18⟩
  refine CW.sub (Sub.cons hl20 (Sub.cons hl21 (Sub.cons hl22 (Sub.cons hl23 (Sub.nil _))))) ?_
  have hf25z := Ex.size hf25
  have hbg26 := RdS.big hf24
  rcases Nat.lt_or_ge k10 p_s.length with hlt27 | hlt27
  ·refine CW.seq (CW.region (sd rfl (yl_lss rfl rfl rfl (SeqR.done (tn (CW.seq (CW.cond_t rfl (lt_t hlt27) (CW.skip (tn ?_)))))))))
   refine CW.seq (CW.block (CW.seq (CW.region (sd rfl (yl_move rfl rfl (sd rfl (yl_assign rfl rfl (SeqR.done (tn (CW.seq ?_))))))))))
   refine CW.region (sd rfl (yl_move rfl rfl (sd rfl (yl_move rfl rfl (sd rfl (yl_move rfl rfl ?_))))))
   obtain ⟨eb28, eo28, ec28, eA28, eS28, ebl28, el28, eR28, eC28⟩ := RdS.atD hf24 d_Table (i := k10) (by first | omega | assumption)
   obtain ⟨A29, c29, A30, c30, rfl, h29, h30⟩ := eR28
   have eC28 : Cells w16 eb28 (eo28 + k10 * 3) [.string (bs ((p_s.getD k10 d_Table).Name)), .slice A29 (((p_s.getD k10 d_Table).Cols).length) c29, .slice A30 (((p_s.getD k10 d_Table).Idxs).length) c30] := eC28
   refine sd rfl (yl_indexAddrN Try.un88 Try.ty59 rfl rfl rfl eA28 (by first | omega | assumption | (simp only [IntKind.wrap_i64] at *; omega)) (sd rfl (yl_loadN (cs := [.string (bs ((p_s.getD k10 d_Table).Name)), .slice A29 (((p_s.getD k10 d_Table).Cols).length) c29, .slice A30 (((p_s.getD k10 d_Table).Idxs).length) c30]) Try.ty59 rfl rfl eC28 rfl (sd rfl (yl_callv hen5 rfl rfl (opvs_cons rfl opvs_nil) (Cal.mono (hfn6 w16 (p_s.getD k10 d_Table) hf25 (getD_mem (by omega)) (RdS.up h29 good_Str) (RdS.up h30 good_Idx) (okL.getD o2 ok_d_Table _)) ?_))))))
   rintro v32 w31 ⟨rfl, hE33⟩
   have hE33z := Ex.size hE33
   refine SeqR.done (tn (bcase (p_f (p_s.getD k10 d_Table)) (fun hb34 => ?_) (fun hb34 => ?_)))
   ·refine CW.cond_t rfl hb34 (CW.seq (CW.region (sd rfl (yl_move rfl rfl (sd rfl (yl_assign rfl rfl (SeqR.done (tn (CW.ret (br ?_))))))))))
    refine tr (tr ?_)
    have hB36 : B_g_slices_IndexFunc_Table_0 p_s p_f k10 () = .ret (k10 : Int) := by simp only [B_g_slices_IndexFunc_Table_0, hb34, cond_true, cond_false, loopE_done, loopE_ret]
    have hL35 : loopM (B_g_slices_IndexFunc_Table_0 p_s p_f) (p_s.length - 0) 0 () = .ret (k10 : Int) := hI18.symm.trans (loopM.ret hlt27 hB36)
    refine br (tr (rr rfl (.cons rfl .nil) ?_))
    have hM37 : (g_slices_IndexFunc_Table p_s p_f) = ((k10 : Int)) := by simp only [g_slices_IndexFunc_Table, hb34, hL35, cond_true, cond_false, loopE_done, loopE_ret]
    rw [hM37]
    exact ⟨rfl, (Ex.trans hf25 hE33)⟩
   ·refine CW.cond_f rfl hb34 (CW.skip (bn (tn (CW.region (sd rfl (yl_inc rfl rfl rfl (by omega) (sd rfl (yl_move rfl rfl (SeqR.done (tn ?_))))))))))
    have hB39 : B_g_slices_IndexFunc_Table_0 p_s p_f k10 () = .cont () := by simp only [B_g_slices_IndexFunc_Table_0, hb34, cond_true, cond_false, loopE_done, loopE_ret]
    exact ⟨p_s.length - (k10 + 1), by omega, k10 + 1, rfl, hlt27, (by omega), rfl, rfl, rfl, rfl, (RdS.ex good_Table hf24 hE33), (Ex.trans hf25 hE33), (loopM.cont hlt27 hB39).symm.trans hI18⟩
  ·refine CW.seq (CW.region (sd rfl (yl_lss rfl rfl rfl (SeqR.done (tn (CW.seq (CW.cond_f rfl (lt_f hlt27) (CW.exit (tx ?_)))))))))
   refine tx ?_
   have hL42 : loopM (B_g_slices_IndexFunc_Table_0 p_s p_f) (p_s.length - 0) 0 () = .done () := hI18.symm.trans (loopM.stop hlt27)
   refine bx (tn (CW.seq (CW.region (sd rfl (yl_assign rfl rfl (SeqR.done (tn (CW.ret (rr rfl (.cons rfl .nil) ?_)))))))))
   have hM43 : (g_slices_IndexFunc_Table p_s p_f) = (-1) := by simp only [g_slices_IndexFunc_Table, hL42, cond_true, cond_false, loopE_done, loopE_ret]
   rw [hM43]
   exact ⟨rfl, hf25⟩
set_option maxRecDepth 100000 in
set_option maxHeartbeats 2000000 in
theorem c_g_slices_ContainsFunc_Table {A1 : Option Addr} {c1 : Nat} {g3 : Nat} {cp4 : List Value} {w : World} (p_s : List DTable) (p_f : DTable → Bool) (h1 : RdS w (Iv 0 w.heap.size) R_Table 3 A1 p_s.length c1 p_s) (hen5 : Enters Try.prog g3) (hfn6 : ∀ (w1 : World) (y0 : DTable) {A7 : Option Addr} {c7 : Nat} {A8 : Option Addr} {c8 : Nat}, Ex w w1 → y0 ∈ p_s → RdS w1 (Iv 0 w1.heap.size) (RF e_Str) 1 A7 y0.Cols.length c7 y0.Cols → RdS w1 (Iv 0 w1.heap.size) (RF e_Idx) 3 A8 y0.Idxs.length c8 y0.Idxs → ok_Table y0 → Cal Try.prog g3 (([.agg #[.string (bs (y0.Name)), .slice A7 y0.Cols.length c7, .slice A8 y0.Idxs.length c8]] : List Value) ++ cp4).toArray w1 fun v w2 => v = .bool (p_f y0) ∧ Ex w1 w2) (o2 : (okL ok_Table) p_s) : Cal Try.prog 145 #[.slice A1 p_s.length c1, .func (.func g3) #[] cp4.toArray] w fun v w' => v = .bool ((g_slices_ContainsFunc_Table p_s p_f)) ∧ Ex w w' := by
 have hol9 := o2.1
 refine Cal.of (vs := [.slice A1 p_s.length c1, .func (.func g3) #[] cp4.toArray]) Try.func145 rfl Try.ntmps145 rfl (CW.seq (CW.region (sd rfl (yl_assign rfl rfl (SeqR.done (tn (CW.seq (CW.region (sd rfl (yl_move rfl rfl ?_))))))))))
 refine sd rfl (yl_move rfl rfl (sd rfl (yl_call Try.en195 rfl (opvs_cons rfl (opvs_cons rfl opvs_nil)) (Cal.mono (c_g_slices_IndexFunc_Table p_s p_f (RdS.up h1 good_Table) hen5 (fun w1 y0 => fun hE => hfn6 w1 y0 (Ex.trans (Ex.refl w) hE)) o2) ?_))))
 rintro v11 w10 ⟨rfl, hE12⟩
 have hE12z := Ex.size hE12
 refine sd rfl (yl_geq rfl rfl rfl (sd rfl (yl_assign rfl rfl (SeqR.done (tn (CW.ret (rr rfl (.cons rfl .nil) ?_)))))))
 have hM13 : (g_slices_ContainsFunc_Table p_s p_f) = (decide (0 ≤ (g_slices_IndexFunc_Table p_s p_f))) := by simp only [g_slices_ContainsFunc_Table, cond_true, cond_false, loopE_done, loopE_ret]
 rw [hM13]
 exact ⟨rfl, (Ex.trans (Ex.refl w) hE12)⟩
set_option maxRecDepth 100000 in
set_option maxHeartbeats 2000000 in
theorem c_i_isStage {w : World} (p_stage : Int) : Cal Try.prog 164 #[.int .i64 (p_stage)] w fun v w' => v = .bool ((i_isStage p_stage)) ∧ Ex w w' := by
 refine Cal.of (vs := [.int .i64 (p_stage)]) Try.func164 rfl Try.ntmps164 rfl (CW.seq (CW.region (sd rfl (yl_assign rfl rfl (SeqR.done (tn (CW.seq (CW.region (sd rfl (yl_move rfl rfl ?_))))))))))
 refine sd rfl (yl_call Try.en51 rfl (opvs_cons rfl (opvs_cons rfl (opvs_cons rfl opvs_nil))) (Cal.mono (c_i_within p_stage 0 3) ?_))
 rintro v2 w1 ⟨rfl, hE3⟩
 have hE3z := Ex.size hE3
 refine sd rfl (yl_assign rfl rfl (SeqR.done (tn (CW.ret (rr rfl (.cons rfl .nil) ?_)))))
 have hM4 : (i_isStage p_stage) = ((i_within p_stage 0 3)) := by simp only [i_isStage, cond_true, cond_false, loopE_done, loopE_ret]
 rw [hM4]
 exact ⟨rfl, (Ex.trans (Ex.refl w) hE3)⟩
end Go.Proofs.Ytfmepgbpbbneaaa
