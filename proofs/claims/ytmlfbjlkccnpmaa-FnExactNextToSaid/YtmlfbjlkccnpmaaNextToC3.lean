/- Next To: what each call returns, part 3. -/
import Derived.Test.YtmlfbjlkccnpmaaNextToC2
set_option linter.unusedVariables false
set_option linter.unusedSimpArgs false
namespace Go.Proofs.Ytmlfbjlkccnpmaa
open Go.RowKit Go.X
set_option maxRecDepth 100000 in
set_option maxHeartbeats 2000000 in
theorem c_i_Table_findIdx {A1 : Option Addr} {c1 : Nat} {A2 : Option Addr} {c2 : Nat} {w : World} (p_t : DTable) (p_name : Str) (h1 : RdS w (Iv 0 w.heap.size) (RF e_Str) 1 A1 p_t.Cols.length c1 p_t.Cols) (h2 : RdS w (Iv 0 w.heap.size) (RF e_Idx) 3 A2 p_t.Idxs.length c2 p_t.Idxs) (o3 : ok_Table p_t) (o4 : okS p_name) : Cal Try.prog 151 #[.agg #[.string (bs (p_t.Name)), .slice A1 p_t.Cols.length c1, .slice A2 p_t.Idxs.length c2], .string (bs (p_name))] w fun v w' => v = .int .i64 ((i_Table_findIdx p_t p_name)) ∧ Ex w w' := by
  have hol5 : p_t.Name.length ≤ 1073741824 := o3.1
  have hol6 := o3.2.1.1
  have hol7 := o3.2.2.1
  have hol8 : p_name.length ≤ 1073741824 := o4
  refine Cal.of (vs := [.agg #[.string (bs (p_t.Name)), .slice A1 p_t.Cols.length c1, .slice A2 p_t.Idxs.length c2], .string (bs (p_name))]) Try.func151 rfl Try.ntmps151 rfl ?_
  refine CW.seq ?_
  refine CW.region ?_
  refine SeqR.d1 rfl rfl rfl (yl_box (cs := [.string (bs (p_t.Name)), .slice A1 p_t.Cols.length c1, .slice A2 p_t.Idxs.length c2]) rfl rfl rfl ?_)
  intro b9 w10 hs11 hz12 hB13 hE14
  refine SeqR.d1 rfl rfl rfl (yl_box (cs := [.string (bs (p_name))]) rfl rfl rfl ?_)
  intro b15 w16 hs17 hz18 hB19 hE20
  refine SeqR.d1 rfl rfl rfl (yl_assign rfl rfl ?_)
  refine SeqR.done ?_
  refine tn ?_
  refine CW.seq ?_
  refine CW.region ?_
  refine SeqR.d1 rfl rfl rfl (yl_fieldAddr Try.fd35_2 rfl rfl ?_)
  have q21 := Box.ex hB13 hE20
  refine SeqR.d1 rfl rfl rfl (yl_load1 Try.ty33 rfl rfl ((q21.cell 2).trans rfl) ?_)
  refine SeqR.d1 rfl rfl rfl (yl_makeFunc rfl (opvs_cons rfl opvs_nil) ?_)
  have q22 := RdS.ex good_Idx h2 hE14
  have q23 := RdS.ex good_Idx q22 hE20
  refine SeqR.d1 rfl rfl rfl (yl_call Try.en191 rfl (opvs_cons rfl (opvs_cons rfl opvs_nil)) (Cal.mono (c_g_slices_IndexFunc_Idx p_t.Idxs (fun y0 => i_Table_findIdx_c1 y0 p_name) (RdS.up q23 good_Idx) Try.en192 (fun _ y0 => fun hE hm0 ov0 => c_i_Table_findIdx_c1 y0 p_name (Box.ex hB19 hE) ov0 o4) o3.2.2) ?_))
  rintro v25 w24 ⟨rfl, hE26⟩
  have hE26z := Ex.size hE26
  refine SeqR.d1 rfl rfl rfl (yl_assign rfl rfl ?_)
  refine SeqR.done ?_
  refine tn ?_
  refine CW.ret ?_
  refine rr rfl (.cons rfl .nil) ?_
  have hM27 : (i_Table_findIdx p_t p_name) = ((g_slices_IndexFunc_Idx p_t.Idxs (fun y0 => i_Table_findIdx_c1 y0 p_name))) := by simp only [i_Table_findIdx, cond_true, cond_false, loopE_done, loopE_ret]
  rw [hM27]
  have q28 := Ex.trans (Ex.refl w) hE14
  have q29 := Ex.trans q28 hE20
  have q30 := Ex.trans q29 hE26
  exact ⟨rfl, q30⟩
set_option maxRecDepth 100000 in
set_option maxHeartbeats 2000000 in
theorem c_g_slices_Clone_string {A1 : Option Addr} {c1 : Nat} {w : World} (p_s : List Str) (h1 : RdS w (Iv 0 w.heap.size) (RF e_Str) 1 A1 p_s.length c1 p_s) (o2 : (okL okS) p_s) : Cal Try.prog 200 #[.slice A1 p_s.length c1] w fun v w' => ∃ A_1 c_1 lo_1 hi_1, v = .slice A_1 ((g_slices_Clone_string p_s).length) c_1 ∧ OwnL w' lo_1 hi_1 9 1 (RF e_Str) A_1 ((g_slices_Clone_string p_s).length) c_1 (g_slices_Clone_string p_s) ∧ (okL okS) (g_slices_Clone_string p_s) ∧ (w.heap.size ≤ lo_1 ∧ lo_1 ≤ hi_1 ∧ hi_1 ≤ w'.heap.size) ∧ Ex w w' := by
  have hol3 := o2.1
  refine Cal.of (vs := [.slice A1 p_s.length c1]) Try.func200 rfl Try.ntmps200 rfl ?_
  refine CW.seq ?_
  refine CW.region ?_
  refine SeqR.d1 rfl rfl rfl (yl_assign rfl rfl ?_)
  refine SeqR.done ?_
  refine tn ?_
  refine CW.seq ?_
  refine CW.seq ?_
  refine CW.region ?_
  refine SeqR.d1 rfl rfl rfl (yl_move rfl rfl ?_)
  refine SeqR.d1 rfl rfl rfl (yl_snil Try.un22 rfl rfl rfl ?_)
  refine SeqR.done ?_
  refine tn ?_
  refine bcase (A1.isNone) (fun hb4 => ?_) (fun hb4 => ?_)
  · have hnil5 : p_s = [] := RdS.nilA h1 hb4
    refine CW.cond_t rfl hb4 ?_
    refine CW.seq ?_
    refine CW.region ?_
    refine SeqR.d1 rfl rfl rfl (yl_assign rfl rfl ?_)
    refine SeqR.done ?_
    refine tn ?_
    refine CW.ret ?_
    refine tr ?_
    refine rr rfl (.cons rfl .nil) ?_
    have hM6 : (g_slices_Clone_string p_s) = (([] : List Str)) := by simp only [g_slices_Clone_string, hnil5, cond_true, cond_false, loopE_done, loopE_ret, List.append_nil]
    rw [hM6]
    exact ⟨none, 0, w.heap.size, w.heap.size, rfl, (OwnL.nil _ _ _ _ _ _), (okL.nil _), (by omega), (Ex.refl w)⟩
  · skip
    refine CW.cond_f rfl hb4 ?_
    refine CW.skip ?_
    refine tn ?_
    refine CW.seq ?_
    refine CW.region ?_
    refine SeqR.d1 rfl rfl rfl (yl_buildSlice (cs := []) Try.un22 Try.ty9 (by decide) rfl opvs_nil (by kernel_rfl) ?_)
    intro b7 w8 hs9 hz10 hB11 hE12
    have hO13 : OwnL w8 b7 (b7 + 1) 9 1 (RF e_Str) (some ⟨b7, 0, none⟩) 0 0 ([] : List Str) := OwnL.of_box (S := fun _ => False) hB11 (Nat.le_refl _) (Nat.lt_succ_self _) EncL.nil (Nat.le_of_ble_eq_true rfl) (fun h => h) (fun _ h => False.elim h)
    refine SeqR.d1 rfl rfl rfl (yl_move rfl rfl ?_)
    have q14 := RdS.ex good_Str h1 hE12
    obtain ⟨nw15, he16, hs17⟩ := RdS.src q14
    have hol18 : p_s.length ≤ 1073741824 := o2.1
    refine SeqR.d1 rfl rfl rfl (yl_appendL (S := (fun _ => False)) (lo := b7) (hi := (b7 + 1)) (xs := ([] : List Str)) (ys := p_s) good_Str Try.un22 Try.ty9 rfl (Nat.le_of_ble_eq_true rfl) rfl rfl rfl hO13 he16 hs17 rfl (by first | omega | (simp only [List.length_append, List.length_cons, List.length_nil, List.length_take, List.length_drop, List.length_replicate, List.length_set]; omega)) (by first | omega | (simp only [List.length_append, List.length_cons, List.length_nil, List.length_take, List.length_drop, List.length_replicate, List.length_set]; omega)) (by omega) (by omega) (fun _ h _ => False.elim h) (by omega) ?_)
    intro A19 c20 w21 row22 hO23 hG24 hrg25
    have hG24z := hG24.size
    refine SeqR.d1 rfl rfl rfl (yl_assign rfl rfl ?_)
    refine SeqR.done ?_
    refine tn ?_
    refine CW.ret ?_
    refine rr rfl (.cons rfl .nil) ?_
    have hM26 : (g_slices_Clone_string p_s) = ((([] : List Str) ++ p_s)) := by simp only [g_slices_Clone_string, cond_true, cond_false, loopE_done, loopE_ret]
    have hol27 : p_s.length ≤ 1073741824 := o2.1
    rw [hM26]
    have q28 := Ex.trans (Ex.refl w) hE12
    have q29 := Below.grown q28 hG24 (by omega) (fun k hk => by have := hrg25 k hk; omega)
    exact ⟨A19, c20, b7, w21.heap.size, rfl, hO23, (okL.mk (xs := (([] : List Str) ++ p_s)) (by first | omega | (simp only [List.length_append, List.length_cons, List.length_nil, List.length_take, List.length_drop, List.length_replicate, List.length_set]; omega)) (okE.append okE.nil (o2).2)), (by omega), q29⟩
set_option maxRecDepth 100000 in
set_option maxHeartbeats 2000000 in
theorem c_g_slices_Clone_Idx {A1 : Option Addr} {c1 : Nat} {w : World} (p_s : List DIdx) (h1 : RdS w (Iv 0 w.heap.size) (RF e_Idx) 3 A1 p_s.length c1 p_s) (o2 : (okL ok_Idx) p_s) : Cal Try.prog 201 #[.slice A1 p_s.length c1] w fun v w' => ∃ A_1 c_1 lo_1 hi_1, v = .slice A_1 ((g_slices_Clone_Idx p_s).length) c_1 ∧ OwnL w' lo_1 hi_1 132 3 (RF e_Idx) A_1 ((g_slices_Clone_Idx p_s).length) c_1 (g_slices_Clone_Idx p_s) ∧ (okL ok_Idx) (g_slices_Clone_Idx p_s) ∧ (w.heap.size ≤ lo_1 ∧ lo_1 ≤ hi_1 ∧ hi_1 ≤ w'.heap.size) ∧ Ex w w' := by
  have hol3 := o2.1
  refine Cal.of (vs := [.slice A1 p_s.length c1]) Try.func201 rfl Try.ntmps201 rfl ?_
  refine CW.seq ?_
  refine CW.region ?_
  refine SeqR.d1 rfl rfl rfl (yl_assign rfl rfl ?_)
  refine SeqR.done ?_
  refine tn ?_
  refine CW.seq ?_
  refine CW.seq ?_
  refine CW.region ?_
  refine SeqR.d1 rfl rfl rfl (yl_move rfl rfl ?_)
  refine SeqR.d1 rfl rfl rfl (yl_snil Try.un33 rfl rfl rfl ?_)
  refine SeqR.done ?_
  refine tn ?_
  refine bcase (A1.isNone) (fun hb4 => ?_) (fun hb4 => ?_)
  · have hnil5 : p_s = [] := RdS.nilA h1 hb4
    refine CW.cond_t rfl hb4 ?_
    refine CW.seq ?_
    refine CW.region ?_
    refine SeqR.d1 rfl rfl rfl (yl_assign rfl rfl ?_)
    refine SeqR.done ?_
    refine tn ?_
    refine CW.ret ?_
    refine tr ?_
    refine rr rfl (.cons rfl .nil) ?_
    have hM6 : (g_slices_Clone_Idx p_s) = (([] : List DIdx)) := by simp only [g_slices_Clone_Idx, hnil5, cond_true, cond_false, loopE_done, loopE_ret, List.append_nil]
    rw [hM6]
    exact ⟨none, 0, w.heap.size, w.heap.size, rfl, (OwnL.nil _ _ _ _ _ _), (okL.nil _), (by omega), (Ex.refl w)⟩
  · skip
    refine CW.cond_f rfl hb4 ?_
    refine CW.skip ?_
    refine tn ?_
    refine CW.seq ?_
    refine CW.region ?_
    refine SeqR.d1 rfl rfl rfl (yl_buildSlice (cs := []) Try.un33 Try.ty132 (by decide) rfl opvs_nil (by kernel_rfl) ?_)
    intro b7 w8 hs9 hz10 hB11 hE12
    have hO13 : OwnL w8 b7 (b7 + 1) 132 3 (RF e_Idx) (some ⟨b7, 0, none⟩) 0 0 ([] : List DIdx) := OwnL.of_box (S := fun _ => False) hB11 (Nat.le_refl _) (Nat.lt_succ_self _) EncL.nil (Nat.le_of_ble_eq_true rfl) (fun h => h) (fun _ h => False.elim h)
    refine SeqR.d1 rfl rfl rfl (yl_move rfl rfl ?_)
    have q14 := RdS.ex good_Idx h1 hE12
    obtain ⟨nw15, he16, hs17⟩ := RdS.src q14
    have hol18 : p_s.length ≤ 1073741824 := o2.1
    refine SeqR.d1 rfl rfl rfl (yl_appendL (S := (fun _ => False)) (lo := b7) (hi := (b7 + 1)) (xs := ([] : List DIdx)) (ys := p_s) good_Idx Try.un33 Try.ty132 rfl (Nat.le_of_ble_eq_true rfl) rfl rfl rfl hO13 he16 hs17 rfl (by first | omega | (simp only [List.length_append, List.length_cons, List.length_nil, List.length_take, List.length_drop, List.length_replicate, List.length_set]; omega)) (by first | omega | (simp only [List.length_append, List.length_cons, List.length_nil, List.length_take, List.length_drop, List.length_replicate, List.length_set]; omega)) (by omega) (by omega) (fun _ h _ => False.elim h) (by omega) ?_)
    intro A19 c20 w21 row22 hO23 hG24 hrg25
    have hG24z := hG24.size
    refine SeqR.d1 rfl rfl rfl (yl_assign rfl rfl ?_)
    refine SeqR.done ?_
    refine tn ?_
    refine CW.ret ?_
    refine rr rfl (.cons rfl .nil) ?_
    have hM26 : (g_slices_Clone_Idx p_s) = ((([] : List DIdx) ++ p_s)) := by simp only [g_slices_Clone_Idx, cond_true, cond_false, loopE_done, loopE_ret]
    have hol27 : p_s.length ≤ 1073741824 := o2.1
    rw [hM26]
    have q28 := Ex.trans (Ex.refl w) hE12
    have q29 := Below.grown q28 hG24 (by omega) (fun k hk => by have := hrg25 k hk; omega)
    exact ⟨A19, c20, b7, w21.heap.size, rfl, hO23, (okL.mk (xs := (([] : List DIdx) ++ p_s)) (by first | omega | (simp only [List.length_append, List.length_cons, List.length_nil, List.length_take, List.length_drop, List.length_replicate, List.length_set]; omega)) (okE.append okE.nil (o2).2)), (by omega), q29⟩
set_option maxRecDepth 100000 in
set_option maxHeartbeats 2000000 in
theorem c_i_copyTable {A1 : Option Addr} {c1 : Nat} {A2 : Option Addr} {c2 : Nat} {w : World} (p_t : DTable) (h1 : RdS w (Iv 0 w.heap.size) (RF e_Str) 1 A1 p_t.Cols.length c1 p_t.Cols) (h2 : RdS w (Iv 0 w.heap.size) (RF e_Idx) 3 A2 p_t.Idxs.length c2 p_t.Idxs) (o3 : ok_Table p_t) : Cal Try.prog 165 #[.agg #[.string (bs (p_t.Name)), .slice A1 p_t.Cols.length c1, .slice A2 p_t.Idxs.length c2]] w fun v w' => ∃ A_1 c_1 lo_1 hi_1 A_2 c_2 lo_2 hi_2, v = .agg #[.string (bs ((i_copyTable p_t).Name)), .slice A_1 (((i_copyTable p_t).Cols).length) c_1, .slice A_2 (((i_copyTable p_t).Idxs).length) c_2] ∧ OwnL w' lo_1 hi_1 9 1 (RF e_Str) A_1 (((i_copyTable p_t).Cols).length) c_1 ((i_copyTable p_t).Cols) ∧ OwnL w' lo_2 hi_2 132 3 (RF e_Idx) A_2 (((i_copyTable p_t).Idxs).length) c_2 ((i_copyTable p_t).Idxs) ∧ ok_Table (i_copyTable p_t) ∧ (w.heap.size ≤ lo_1 ∧ lo_1 ≤ hi_1 ∧ hi_1 ≤ w'.heap.size) ∧ (w.heap.size ≤ lo_2 ∧ lo_2 ≤ hi_2 ∧ hi_2 ≤ w'.heap.size) ∧ (hi_1 ≤ lo_2 ∨ hi_2 ≤ lo_1) ∧ Ex w w' := by
  have hol4 : p_t.Name.length ≤ 1073741824 := o3.1
  have hol5 := o3.2.1.1
  have hol6 := o3.2.2.1
  refine Cal.of (vs := [.agg #[.string (bs (p_t.Name)), .slice A1 p_t.Cols.length c1, .slice A2 p_t.Idxs.length c2]]) Try.func165 rfl Try.ntmps165 rfl ?_
  refine CW.seq ?_
  refine CW.region ?_
  refine SeqR.d1 rfl rfl rfl (yl_box (cs := [.string (bs (p_t.Name)), .slice A1 p_t.Cols.length c1, .slice A2 p_t.Idxs.length c2]) rfl rfl rfl ?_)
  intro b7 w8 hs9 hz10 hB11 hE12
  refine SeqR.d1 rfl rfl rfl (yl_alloc Try.ty35 (cs := [.string (bs (([] : Str))), .slice none 0 0, .slice none 0 0]) rfl rfl ?_)
  intro b13 w14 hs15 hz16 hB17 hE18
  refine SeqR.done ?_
  refine tn ?_
  refine CW.seq ?_
  have q19 := Box.ex hB11 hE18
  have q20 := RdS.ex good_Str h1 hE12
  have q21 := RdS.ex good_Str q20 hE18
  have q25 := RdS.ex good_Idx h2 hE12
  have q26 := RdS.ex good_Idx q25 hE18
  refine CW.drawsI 8 (vgetI [DetI (.pointer (some ⟨b7, 0 + 0, none⟩)), DetI (.string (bs (p_t.Name))), DetI (.pointer (some ⟨b7, 0 + 1, none⟩)), DetI (.slice A1 p_t.Cols.length c1), fun lo hi v wq => ∃ A23 c23 lo23 hi23, v = .slice A23 ((g_slices_Clone_string p_t.Cols).length) c23 ∧ OwnL wq lo23 hi23 9 1 (RF e_Str) A23 ((g_slices_Clone_string p_t.Cols).length) c23 (g_slices_Clone_string p_t.Cols) ∧ (okL okS) (g_slices_Clone_string p_t.Cols) ∧ (lo ≤ lo23 ∧ lo23 ≤ hi23 ∧ hi23 ≤ hi), DetI (.pointer (some ⟨b7, 0 + 2, none⟩)), DetI (.slice A2 p_t.Idxs.length c2), fun lo hi v wq => ∃ A28 c28 lo28 hi28, v = .slice A28 ((g_slices_Clone_Idx p_t.Idxs).length) c28 ∧ OwnL wq lo28 hi28 132 3 (RF e_Idx) A28 ((g_slices_Clone_Idx p_t.Idxs).length) c28 (g_slices_Clone_Idx p_t.Idxs) ∧ (okL ok_Idx) (g_slices_Clone_Idx p_t.Idxs) ∧ (lo ≤ lo28 ∧ lo28 ≤ hi28 ∧ hi28 ≤ hi)]) Try.follows rfl rfl rfl rfl rfl rfl (vgetI_stable ⟨StableI.det _, StableI.det _, StableI.det _, StableI.det _, (fun _ _ _ _ _ ⟨A23, c23, lo23, hi23, hv, h23, ho24, hr0⟩ e => ⟨A23, c23, lo23, hi23, hv, OwnL.ex good_Str h23 e, ho24, hr0⟩), StableI.det _, StableI.det _, (fun _ _ _ _ _ ⟨A28, c28, lo28, hi28, hv, h28, ho29, hr0⟩ e => ⟨A28, c28, lo28, hi28, hv, OwnL.ex good_Idx h28 e, ho29, hr0⟩), trivial⟩) ⟨?_, ?_, ?_, ?_, ?_, ?_, ?_, ?_, trivial⟩ ?_
  · intro L30 w31 hi32
    have hE33 := hi32.ex
    have hE33z := Ex.size hE33
    have hx34 := hi32.old 1 _ rfl rfl
    exact OpR.op' rfl (Yl.sameI (yl_fieldAddr Try.fd35_0 rfl hx34 ⟨fun _ _ => rfl, rfl⟩))
  · intro L35 w36 hi37
    have hE38 := hi37.ex
    have hE38z := Ex.size hE38
    obtain ⟨_, _, _, hx39, -, -, -, rfl⟩ := hi37.dep 0 3 rfl rfl
    have q40 := Box.ex q19 hE38
    exact OpR.op' rfl (Yl.sameI (yl_load1 Try.ty9 rfl hx39 ((q40.cell 0).trans rfl) ⟨fun _ _ => rfl, rfl⟩))
  · intro L41 w42 hi43
    have hE44 := hi43.ex
    have hE44z := Ex.size hE44
    have hx45 := hi43.old 1 _ rfl rfl
    exact OpR.op' rfl (Yl.sameI (yl_fieldAddr Try.fd35_1 rfl hx45 ⟨fun _ _ => rfl, rfl⟩))
  · intro L46 w47 hi48
    have hE49 := hi48.ex
    have hE49z := Ex.size hE49
    obtain ⟨_, _, _, hx50, -, -, -, rfl⟩ := hi48.dep 2 5 rfl rfl
    have q51 := Box.ex q19 hE49
    exact OpR.op' rfl (Yl.sameI (yl_load1 Try.ty22 rfl hx50 ((q51.cell 1).trans rfl) ⟨fun _ _ => rfl, rfl⟩))
  · intro L52 w53 hi54
    have hE55 := hi54.ex
    have hE55z := Ex.size hE55
    obtain ⟨_, _, _, hx56, -, -, -, rfl⟩ := hi54.dep 3 6 rfl rfl
    have q57 := RdS.ex good_Str q21 hE55
    refine OpR.op' rfl (yl_call Try.en200 rfl (opvs_cons hx56 opvs_nil) (Cal.mono (c_g_slices_Clone_string p_t.Cols (RdS.up q57 good_Str) o3.2.1) ?_))
    rintro v61 w58 ⟨A59, c59, lo59, hi59, rfl, h59, ho60, hrn63, hE62⟩
    exact ⟨⟨A59, c59, lo59, hi59, rfl, h59, ho60, hrn63⟩, hE62⟩
  · intro L64 w65 hi66
    have hE67 := hi66.ex
    have hE67z := Ex.size hE67
    have hx68 := hi66.old 1 _ rfl rfl
    exact OpR.op' rfl (Yl.sameI (yl_fieldAddr Try.fd35_2 rfl hx68 ⟨fun _ _ => rfl, rfl⟩))
  · intro L69 w70 hi71
    have hE72 := hi71.ex
    have hE72z := Ex.size hE72
    obtain ⟨_, _, _, hx73, -, -, -, rfl⟩ := hi71.dep 5 8 rfl rfl
    have q74 := Box.ex q19 hE72
    exact OpR.op' rfl (Yl.sameI (yl_load1 Try.ty33 rfl hx73 ((q74.cell 2).trans rfl) ⟨fun _ _ => rfl, rfl⟩))
  · intro L75 w76 hi77
    have hE78 := hi77.ex
    have hE78z := Ex.size hE78
    obtain ⟨_, _, _, hx79, -, -, -, rfl⟩ := hi77.dep 6 9 rfl rfl
    have q80 := RdS.ex good_Idx q26 hE78
    refine OpR.op' rfl (yl_call Try.en201 rfl (opvs_cons hx79 opvs_nil) (Cal.mono (c_g_slices_Clone_Idx p_t.Idxs (RdS.up q80 good_Idx) o3.2.2) ?_))
    rintro v84 w81 ⟨A82, c82, lo82, hi82, rfl, h82, ho83, hrn86, hE85⟩
    exact ⟨⟨A82, c82, lo82, hi82, rfl, h82, ho83, hrn86⟩, hE85⟩
  · intro fl90 fh91 L87 w88 hp89
    have hE92 := hp89.ex
    have hE92z := Ex.size hE92
    have hx93 := hp89.old 2 _ rfl rfl
    obtain ⟨_, hx94, rfl⟩ := hp89.new 1 4 rfl rfl
    have hr96 := hp89.rng 4 rfl
    obtain ⟨_, hx95, A23_97, c23_98, lo23_99, hi23_100, rfl, h101, h102, hrn103⟩ := hp89.new 4 7 rfl rfl
    have hr105 := hp89.rng 7 rfl
    have hsp106 := hp89.sep 4 7 rfl rfl rfl
    obtain ⟨_, hx104, A28_107, c28_108, lo28_109, hi28_110, rfl, h111, h112, hrn113⟩ := hp89.new 7 10 rfl rfl
    refine SeqR.d1 rfl rfl rfl (yl_build (cs := [.string (bs (p_t.Name)), .slice A23_97 ((g_slices_Clone_string p_t.Cols).length) c23_98, .slice A28_107 ((g_slices_Clone_Idx p_t.Idxs).length) c28_108]) rfl (opvs_cons hx94 (opvs_cons hx95 (opvs_cons hx104 opvs_nil))) (by kernel_rfl) ?_)
    have q114 := Box.ex hB17 hE92
    refine SeqR.u rfl rfl (yl_store (vs := [.string (bs (p_t.Name)), .slice A23_97 ((g_slices_Clone_string p_t.Cols).length) c23_98, .slice A28_107 ((g_slices_Clone_Idx p_t.Idxs).length) c28_108]) Try.ty35 rfl hx93 rfl rfl rfl rfl q114 (Nat.le_of_ble_eq_true rfl) ?_)
    intro w115 hB116 hO117
    have hB116 : Box w115 b13 35 [.string (bs (p_t.Name)), .slice A23_97 ((g_slices_Clone_string p_t.Cols).length) c23_98, .slice A28_107 ((g_slices_Clone_Idx p_t.Idxs).length) c28_108] := hB116
    have hO117z := hO117.size
    refine SeqR.done ?_
    refine tn ?_
    refine CW.sub (Sub.cons (d := 2) hx93 (Sub.nil _)) ?_
    refine CW.ret ?_
    refine rr rfl (.cons ⟨_, rfl, run_loadN Try.ty35 (cs := [.string (bs (p_t.Name)), .slice A23_97 ((g_slices_Clone_string p_t.Cols).length) c23_98, .slice A28_107 ((g_slices_Clone_Idx p_t.Idxs).length) c28_108]) rfl (hB116.cells (n := 3) rfl)⟩ .nil) ?_
    have hM118 : (i_copyTable p_t) = ((⟨p_t.Name, (g_slices_Clone_string p_t.Cols), (g_slices_Clone_Idx p_t.Idxs)⟩ : DTable)) := by simp only [i_copyTable, cond_true, cond_false, loopE_done, loopE_ret]
    have q119 := OwnL.only good_Str h101 hO117 (by omega)
    have q120 := OwnL.only good_Idx h111 hO117 (by omega)
    rw [hM118]
    have q121 := Ex.trans (Ex.refl w) hE12
    have q122 := Ex.trans q121 hE18
    have q123 := Ex.trans q122 hE92
    have q124 := Below.only q123 hO117 (by omega)
    exact ⟨A23_97, c23_98, lo23_99, hi23_100, A28_107, c28_108, lo28_109, hi28_110, rfl, q119, q120, ⟨o3.1, h102, h112⟩, (by omega), (by omega), (by omega), q124⟩
set_option maxRecDepth 100000 in
set_option maxHeartbeats 2000000 in
theorem c_i_Table_withStage {A1 : Option Addr} {c1 : Nat} {A2 : Option Addr} {c2 : Nat} {w : World} (p_t : DTable) (p_name : Str) (p_stage : Int) (h1 : RdS w (Iv 0 w.heap.size) (RF e_Str) 1 A1 p_t.Cols.length c1 p_t.Cols) (h2 : RdS w (Iv 0 w.heap.size) (RF e_Idx) 3 A2 p_t.Idxs.length c2 p_t.Idxs) (o3 : ok_Table p_t) (o4 : okS p_name) (pre0 : (0 ≤ i_Table_findIdx p_t p_name ∧ i_Table_findIdx p_t p_name < (p_t.Idxs.length : Int))) : Cal Try.prog 95 #[.agg #[.string (bs (p_t.Name)), .slice A1 p_t.Cols.length c1, .slice A2 p_t.Idxs.length c2], .string (bs (p_name)), .int .i64 (p_stage)] w fun v w' => ∃ A_1 c_1 lo_1 hi_1 A_2 c_2 lo_2 hi_2, v = .agg #[.string (bs ((i_Table_withStage p_t p_name p_stage).Name)), .slice A_1 (((i_Table_withStage p_t p_name p_stage).Cols).length) c_1, .slice A_2 (((i_Table_withStage p_t p_name p_stage).Idxs).length) c_2] ∧ OwnL w' lo_1 hi_1 9 1 (RF e_Str) A_1 (((i_Table_withStage p_t p_name p_stage).Cols).length) c_1 ((i_Table_withStage p_t p_name p_stage).Cols) ∧ OwnL w' lo_2 hi_2 132 3 (RF e_Idx) A_2 (((i_Table_withStage p_t p_name p_stage).Idxs).length) c_2 ((i_Table_withStage p_t p_name p_stage).Idxs) ∧ ok_Table (i_Table_withStage p_t p_name p_stage) ∧ (w.heap.size ≤ lo_1 ∧ lo_1 ≤ hi_1 ∧ hi_1 ≤ w'.heap.size) ∧ (w.heap.size ≤ lo_2 ∧ lo_2 ≤ hi_2 ∧ hi_2 ≤ w'.heap.size) ∧ (hi_1 ≤ lo_2 ∨ hi_2 ≤ lo_1) ∧ Ex w w' := by
  have hol5 : p_t.Name.length ≤ 1073741824 := o3.1
  have hol6 := o3.2.1.1
  have hol7 := o3.2.2.1
  have hol8 : p_name.length ≤ 1073741824 := o4
  refine Cal.of (vs := [.agg #[.string (bs (p_t.Name)), .slice A1 p_t.Cols.length c1, .slice A2 p_t.Idxs.length c2], .string (bs (p_name)), .int .i64 (p_stage)]) Try.func95 rfl Try.ntmps95 rfl ?_
  refine CW.seq ?_
  refine CW.region ?_
  refine SeqR.d1 rfl rfl rfl (yl_box (cs := [.string (bs (p_t.Name)), .slice A1 p_t.Cols.length c1, .slice A2 p_t.Idxs.length c2]) rfl rfl rfl ?_)
  intro b9 w10 hs11 hz12 hB13 hE14
  refine SeqR.d1 rfl rfl rfl (yl_alloc Try.ty35 (cs := [.string (bs (([] : Str))), .slice none 0 0, .slice none 0 0]) rfl rfl ?_)
  intro b15 w16 hs17 hz18 hB19 hE20
  refine SeqR.done ?_
  refine tn ?_
  refine CW.seq ?_
  refine CW.region ?_
  have q21 := Box.ex hB13 hE20
  refine SeqR.d1 rfl rfl rfl (yl_loadN (cs := [.string (bs (p_t.Name)), .slice A1 p_t.Cols.length c1, .slice A2 p_t.Idxs.length c2]) Try.ty35 rfl rfl (q21.cells (n := 3) rfl) rfl ?_)
  have q22 := RdS.ex good_Str h1 hE14
  have q23 := RdS.ex good_Str q22 hE20
  have q24 := RdS.ex good_Idx h2 hE14
  have q25 := RdS.ex good_Idx q24 hE20
  refine SeqR.d1 rfl rfl rfl (yl_call Try.en165 rfl (opvs_cons rfl opvs_nil) (Cal.mono (c_i_copyTable p_t (RdS.up q23 good_Str) (RdS.up q25 good_Idx) o3) ?_))
  rintro v30 w26 ⟨A27, c27, lo27, hi27, A28, c28, lo28, hi28, rfl, h27, h28, ho29, hrn32, hrn33, hrn34, hE31⟩
  have hE31z := Ex.size hE31
  have hrf35 := rf_copyTable p_t
  refine SeqR.d1 rfl rfl rfl (yl_alloc Try.ty35 (cs := [.string (bs (([] : Str))), .slice none 0 0, .slice none 0 0]) rfl rfl ?_)
  intro b36 w37 hs38 hz39 hB40 hE41
  refine SeqR.u rfl rfl (yl_store (vs := [.string (bs ((i_copyTable p_t).Name)), .slice A27 (((i_copyTable p_t).Cols).length) c27, .slice A28 (((i_copyTable p_t).Idxs).length) c28]) Try.ty35 rfl rfl rfl rfl rfl rfl hB40 (Nat.le_of_ble_eq_true rfl) ?_)
  intro w42 hB43 hO44
  have hB43 : Box w42 b36 35 [.string (bs ((i_copyTable p_t).Name)), .slice A27 (((i_copyTable p_t).Cols).length) c27, .slice A28 (((i_copyTable p_t).Idxs).length) c28] := hB43
  have hO44z := hO44.size
  refine SeqR.done ?_
  refine tn ?_
  refine CW.seq ?_
  have q45 := Box.ex q21 hE31
  have q46 := Box.ex q45 hE41
  have q47 := Box.only q46 hO44 (by omega)
  have q48 := RdS.ex good_Str q23 hE31
  have q49 := RdS.ex good_Str q48 hE41
  have q50 := RdS.only good_Str q49 hO44 (by simp only [Iv]; omega)
  have q51 := RdS.ex good_Idx q25 hE31
  have q52 := RdS.ex good_Idx q51 hE41
  have q53 := RdS.only good_Idx q52 hO44 (by simp only [Iv]; omega)
  have hrf55 := rf_i_findIdx p_t p_name
  refine CW.drawsI 6 (vgetI [DetI (.pointer (some ⟨b36, 0 + 2, none⟩)), DetI (.slice A28 (((i_copyTable p_t).Idxs).length) c28), DetI (.agg #[.string (bs (p_t.Name)), .slice A1 p_t.Cols.length c1, .slice A2 p_t.Idxs.length c2]), DetI (.string (bs (p_name))), DetI (.int .i64 ((i_Table_findIdx p_t p_name))), DetI (.int .i64 (p_stage))]) Try.follows rfl rfl rfl rfl rfl rfl (vgetI_stable ⟨StableI.det _, StableI.det _, StableI.det _, StableI.det _, StableI.det _, StableI.det _, trivial⟩) ⟨?_, ?_, ?_, ?_, ?_, ?_, trivial⟩ ?_
  · intro L56 w57 hi58
    have hE59 := hi58.ex
    have hE59z := Ex.size hE59
    have hx60 := hi58.old 7 _ rfl rfl
    exact OpR.op' rfl (Yl.sameI (yl_fieldAddr Try.fd35_2 rfl hx60 ⟨fun _ _ => rfl, rfl⟩))
  · intro L61 w62 hi63
    have hE64 := hi63.ex
    have hE64z := Ex.size hE64
    obtain ⟨_, _, _, hx65, -, -, -, rfl⟩ := hi63.dep 0 10 rfl rfl
    have q66 := Box.ex hB43 hE64
    exact OpR.op' rfl (Yl.sameI (yl_load1 Try.ty33 rfl hx65 ((q66.cell 2).trans rfl) ⟨fun _ _ => rfl, rfl⟩))
  · intro L67 w68 hi69
    have hE70 := hi69.ex
    have hE70z := Ex.size hE70
    have hx71 := hi69.old 3 _ rfl rfl
    have q72 := Box.ex q47 hE70
    exact OpR.op' rfl (Yl.sameI (yl_loadN (cs := [.string (bs (p_t.Name)), .slice A1 p_t.Cols.length c1, .slice A2 p_t.Idxs.length c2]) Try.ty35 rfl hx71 (q72.cells (n := 3) rfl) rfl ⟨fun _ _ => rfl, rfl⟩))
  · intro L73 w74 hi75
    have hE76 := hi75.ex
    have hE76z := Ex.size hE76
    have hx77 := hi75.old 1 _ rfl rfl
    exact OpR.op' rfl (Yl.sameI (yl_move rfl hx77 ⟨fun _ _ => rfl, rfl⟩))
  · intro L78 w79 hi80
    have hE81 := hi80.ex
    have hE81z := Ex.size hE81
    obtain ⟨_, _, _, hx82, -, -, -, rfl⟩ := hi80.dep 2 12 rfl rfl
    obtain ⟨_, _, _, hx83, -, -, -, rfl⟩ := hi80.dep 3 13 rfl rfl
    have q84 := RdS.ex good_Str q50 hE81
    have q85 := RdS.ex good_Idx q53 hE81
    refine OpR.op' rfl (yl_call Try.en151 rfl (opvs_cons hx82 (opvs_cons hx83 opvs_nil)) (Cal.mono (c_i_Table_findIdx p_t p_name (RdS.up q84 good_Str) (RdS.up q85 good_Idx) o3 o4) ?_))
    rintro v87 w86 ⟨rfl, hE88⟩
    exact ⟨rfl, hE88⟩
  · intro L89 w90 hi91
    have hE92 := hi91.ex
    have hE92z := Ex.size hE92
    have hx93 := hi91.old 2 _ rfl rfl
    exact OpR.op' rfl (Yl.sameI (yl_move rfl hx93 ⟨fun _ _ => rfl, rfl⟩))
  · intro fl97 fh98 L94 w95 hp96
    have hE99 := hp96.ex
    have hE99z := Ex.size hE99
    have hx100 := hp96.old 6 _ rfl rfl
    have hx101 := hp96.old 7 _ rfl rfl
    obtain ⟨_, hx102, rfl⟩ := hp96.new 1 11 rfl rfl
    obtain ⟨_, hx103, rfl⟩ := hp96.new 4 14 rfl rfl
    obtain ⟨_, hx104, rfl⟩ := hp96.new 5 15 rfl rfl
    have q106 := OwnL.ex good_Idx h28 hE41
    have q107 := OwnL.only good_Idx q106 hO44 (by omega)
    have q108 := OwnL.ex good_Idx q107 hE99
    have q105 := OwnL.rd good_Idx q108
    obtain ⟨eb109, eo109, ec109, eA109, eS109, ebl109, el109, eR109, eC109⟩ := RdS.atD q105 d_Idx (i := ((i_Table_findIdx p_t p_name)).toNat) (by first | omega | assumption | (simp only [IntKind.wrap_i64] at *; omega))
    obtain rfl := eR109
    have eC109 : Cells w95 eb109 (eo109 + (((i_Table_findIdx p_t p_name)).toNat) * 3) [.string (bs ((((i_copyTable p_t).Idxs).getD (((i_Table_findIdx p_t p_name)).toNat) d_Idx).Name)), .int .i64 ((((i_copyTable p_t).Idxs).getD (((i_Table_findIdx p_t p_name)).toNat) d_Idx).Col), .int .i64 ((((i_copyTable p_t).Idxs).getD (((i_Table_findIdx p_t p_name)).toNat) d_Idx).Stage)] := eC109
    refine SeqR.d1 rfl rfl rfl (yl_indexAddr Try.un33 Try.ty132 rfl hx102 hx103 eA109 (by first | omega | assumption | (simp only [IntKind.wrap_i64] at *; omega)) (by first | omega | assumption | (simp only [IntKind.wrap_i64] at *; omega)) ?_)
    refine SeqR.d1 rfl rfl rfl (yl_fieldAddr Try.fd132_2 rfl rfl ?_)
    have hrg110 := OwnL.rng q108 (i := ((i_Table_findIdx p_t p_name)).toNat) (by first | omega | assumption | (simp only [IntKind.wrap_i64] at *; omega)) eb109 (by rw [eA109]; rfl)
    refine SeqR.u rfl rfl (yl_storeF (off := eo109) (i := ((i_Table_findIdx p_t p_name)).toNat) (d := 2) (dx := d_Idx) (x' := (⟨(((i_copyTable p_t).Idxs).getD (((i_Table_findIdx p_t p_name)).toNat) d_Idx).Name, (((i_copyTable p_t).Idxs).getD (((i_Table_findIdx p_t p_name)).toNat) d_Idx).Col, p_stage⟩ : DIdx)) (vs := [.int .i64 (p_stage)]) Try.ty3 rfl q108 eA109 rfl hx104 rfl rfl rfl (by first | omega | assumption | (simp only [IntKind.wrap_i64] at *; omega)) (Nat.le_of_ble_eq_true rfl) rfl rfl ?_)
    intro w111 hB112 hO113
    have hO113z := hO113.size
    refine SeqR.done ?_
    refine tn ?_
    refine CW.sub (Sub.cons (d := 6) hx100 (Sub.cons (d := 7) hx101 (Sub.nil _))) ?_
    refine CW.seq ?_
    refine CW.region ?_
    have q114 := Box.ex hB43 hE99
    have q115 := Box.only q114 hO113 (by omega)
    refine SeqR.d1 rfl rfl rfl (yl_loadN (cs := [.string (bs ((i_copyTable p_t).Name)), .slice A27 (((i_copyTable p_t).Cols).length) c27, .slice A28 (((i_copyTable p_t).Idxs).length) c28]) Try.ty35 rfl rfl (q115.cells (n := 3) rfl) rfl ?_)
    have q116 := Box.ex hB19 hE31
    have q117 := Box.ex q116 hE41
    have q118 := Box.only q117 hO44 (by omega)
    have q119 := Box.ex q118 hE99
    have q120 := Box.only q119 hO113 (by omega)
    refine SeqR.u rfl rfl (yl_store (vs := [.string (bs ((i_copyTable p_t).Name)), .slice A27 (((i_copyTable p_t).Cols).length) c27, .slice A28 (((i_copyTable p_t).Idxs).length) c28]) Try.ty35 rfl rfl rfl rfl rfl rfl q120 (Nat.le_of_ble_eq_true rfl) ?_)
    intro w121 hB122 hO123
    have hB122 : Box w121 b15 35 [.string (bs ((i_copyTable p_t).Name)), .slice A27 (((i_copyTable p_t).Cols).length) c27, .slice A28 (((i_copyTable p_t).Idxs).length) c28] := hB122
    have hO123z := hO123.size
    refine SeqR.done ?_
    refine tn ?_
    refine CW.ret ?_
    refine rr rfl (.cons ⟨_, rfl, run_loadN Try.ty35 (cs := [.string (bs ((i_copyTable p_t).Name)), .slice A27 (((i_copyTable p_t).Cols).length) c27, .slice A28 (((i_copyTable p_t).Idxs).length) c28]) rfl (hB122.cells (n := 3) rfl)⟩ .nil) ?_
    have hM124 : (i_Table_withStage p_t p_name p_stage) = ((⟨(i_copyTable p_t).Name, (i_copyTable p_t).Cols, (((i_copyTable p_t).Idxs).set (((i_Table_findIdx p_t p_name)).toNat) (⟨(((i_copyTable p_t).Idxs).getD (((i_Table_findIdx p_t p_name)).toNat) d_Idx).Name, (((i_copyTable p_t).Idxs).getD (((i_Table_findIdx p_t p_name)).toNat) d_Idx).Col, p_stage⟩ : DIdx))⟩ : DTable)) := by simp only [i_Table_withStage, cond_true, cond_false, loopE_done, loopE_ret]
    have q125 := OwnL.ex good_Str h27 hE41
    have q126 := OwnL.only good_Str q125 hO44 (by omega)
    have q127 := OwnL.ex good_Str q126 hE99
    have q128 := OwnL.only good_Str q127 hO113 (by omega)
    have q129 := OwnL.only good_Str q128 hO123 (by omega)
    have q130 := OwnL.only good_Idx hB112 hO123 (by omega)
    have hfx131 := (q130).1
    have hol132 : ((i_copyTable p_t).Idxs).length ≤ 1073741824 := ho29.2.2.1
    rw [hM124]
    have q133 := Ex.trans (Ex.refl w) hE14
    have q134 := Ex.trans q133 hE20
    have q135 := Ex.trans q134 hE31
    have q136 := Ex.trans q135 hE41
    have q137 := Below.only q136 hO44 (by omega)
    have q138 := Ex.trans q137 hE99
    have q139 := Below.only q138 hO113 (by omega)
    have q140 := Below.only q139 hO123 (by omega)
    exact ⟨A27, c27, lo27, hi27, A28, c28, lo28, hi28, (by first | rfl | (simp only [List.length_replicate, List.length_set]; done) | (simp only [List.length_replicate, List.length_set]; rfl) | rw [hfx131]), q129, (OwnL.fix q130), ⟨ho29.1, ho29.2.1, (okL.mk (xs := (((i_copyTable p_t).Idxs).set (((i_Table_findIdx p_t p_name)).toNat) (⟨(((i_copyTable p_t).Idxs).getD (((i_Table_findIdx p_t p_name)).toNat) d_Idx).Name, (((i_copyTable p_t).Idxs).getD (((i_Table_findIdx p_t p_name)).toNat) d_Idx).Col, p_stage⟩ : DIdx))) (by first | omega | (simp only [List.length_append, List.length_cons, List.length_nil, List.length_take, List.length_drop, List.length_replicate, List.length_set]; omega)) (okE.set (ho29.2.2).2 (okL.getD ho29.2.2 ok_d_Idx _)))⟩, (by omega), (by omega), (by omega), q140⟩
set_option maxRecDepth 100000 in
set_option maxHeartbeats 2000000 in
theorem c_i_NextTo {A1 : Option Addr} {c1 : Nat} {A2 : Option Addr} {c2 : Nat} {A4 : Option Addr} {c4 : Nat} {A5 : Option Addr} {c5 : Nat} {w : World} (p_a : DTable) (p_b : DTable) (h1 : RdS w (Iv 0 w.heap.size) (RF e_Str) 1 A1 p_a.Cols.length c1 p_a.Cols) (h2 : RdS w (Iv 0 w.heap.size) (RF e_Idx) 3 A2 p_a.Idxs.length c2 p_a.Idxs) (h4 : RdS w (Iv 0 w.heap.size) (RF e_Str) 1 A4 p_b.Cols.length c4 p_b.Cols) (h5 : RdS w (Iv 0 w.heap.size) (RF e_Idx) 3 A5 p_b.Idxs.length c5 p_b.Idxs) (o3 : ok_Table p_a) (o6 : ok_Table p_b) : Cal Try.prog 38 #[.agg #[.string (bs (p_a.Name)), .slice A1 p_a.Cols.length c1, .slice A2 p_a.Idxs.length c2], .agg #[.string (bs (p_b.Name)), .slice A4 p_b.Cols.length c4, .slice A5 p_b.Idxs.length c5]] w fun v w' => v = .tuple #[.bool ((i_NextTo p_a p_b).1), .bool ((i_NextTo p_a p_b).2)] ∧ Ex w w' := by
  have hol7 : p_a.Name.length ≤ 1073741824 := o3.1
  have hol8 := o3.2.1.1
  have hol9 := o3.2.2.1
  have hol10 : p_b.Name.length ≤ 1073741824 := o6.1
  have hol11 := o6.2.1.1
  have hol12 := o6.2.2.1
  refine Cal.of (vs := [.agg #[.string (bs (p_a.Name)), .slice A1 p_a.Cols.length c1, .slice A2 p_a.Idxs.length c2], .agg #[.string (bs (p_b.Name)), .slice A4 p_b.Cols.length c4, .slice A5 p_b.Idxs.length c5]]) Try.func38 rfl Try.ntmps38 rfl ?_
  refine CW.seq ?_
  refine CW.region ?_
  refine SeqR.d1 rfl rfl rfl (yl_box (cs := [.string (bs (p_a.Name)), .slice A1 p_a.Cols.length c1, .slice A2 p_a.Idxs.length c2]) rfl rfl rfl ?_)
  intro b13 w14 hs15 hz16 hB17 hE18
  refine SeqR.d1 rfl rfl rfl (yl_box (cs := [.string (bs (p_b.Name)), .slice A4 p_b.Cols.length c4, .slice A5 p_b.Idxs.length c5]) rfl rfl rfl ?_)
  intro b19 w20 hs21 hz22 hB23 hE24
  refine SeqR.d1 rfl rfl rfl (yl_assign rfl rfl ?_)
  refine SeqR.d1 rfl rfl rfl (yl_assign rfl rfl ?_)
  refine SeqR.done ?_
  refine tn ?_
  refine CW.seq ?_
  refine CW.seq ?_
  refine CW.region ?_
  have q25 := Box.ex hB17 hE24
  refine SeqR.d1 rfl rfl rfl (yl_loadN (cs := [.string (bs (p_a.Name)), .slice A1 p_a.Cols.length c1, .slice A2 p_a.Idxs.length c2]) Try.ty35 rfl rfl (q25.cells (n := 3) rfl) rfl ?_)
  have q26 := RdS.ex good_Str h1 hE18
  have q27 := RdS.ex good_Str q26 hE24
  have q28 := RdS.ex good_Idx h2 hE18
  have q29 := RdS.ex good_Idx q28 hE24
  refine SeqR.d1 rfl rfl rfl (yl_call Try.en72 rfl (opvs_cons rfl opvs_nil) (Cal.mono (c_i_GoodTable p_a (RdS.up q27 good_Str) (RdS.up q29 good_Idx) o3) ?_))
  rintro v31 w30 ⟨rfl, hE32⟩
  have hE32z := Ex.size hE32
  refine SeqR.d1 rfl rfl rfl (yl_not rfl rfl ?_)
  refine SeqR.d1 rfl rfl rfl (yl_move rfl rfl ?_)
  refine bcase (i_GoodTable p_a) (fun hb33 => ?_) (fun hb33 => ?_)
  · have hb33p := f_i_GoodTable hb33
    have q34 := Box.ex hB23 hE32
    refine SeqR.y rfl rfl rfl rfl rfl (not_t hb33) (yl_loadN (cs := [.string (bs (p_b.Name)), .slice A4 p_b.Cols.length c4, .slice A5 p_b.Idxs.length c5]) Try.ty35 rfl rfl (q34.cells (n := 3) rfl) rfl ?_)
    have q35 := RdS.ex good_Str h4 hE18
    have q36 := RdS.ex good_Str q35 hE24
    have q37 := RdS.ex good_Str q36 hE32
    have q38 := RdS.ex good_Idx h5 hE18
    have q39 := RdS.ex good_Idx q38 hE24
    have q40 := RdS.ex good_Idx q39 hE32
    refine SeqR.y rfl rfl rfl rfl rfl (not_t hb33) (yl_call Try.en72 rfl (opvs_cons rfl opvs_nil) (Cal.mono (c_i_GoodTable p_b (RdS.up q37 good_Str) (RdS.up q40 good_Idx) o6) ?_))
    rintro v42 w41 ⟨rfl, hE43⟩
    have hE43z := Ex.size hE43
    refine SeqR.y rfl rfl rfl rfl rfl (not_t hb33) (yl_not rfl rfl ?_)
    refine SeqR.d1 rfl rfl rfl (yl_pick_f rfl rfl (not_t hb33) rfl ?_)
    refine SeqR.done ?_
    refine tn ?_
    refine bcase (i_GoodTable p_b) (fun hb44 => ?_) (fun hb44 => ?_)
    · have hb44p := f_i_GoodTable hb44
      refine CW.cond_f rfl (not_t hb44) ?_
      refine CW.skip ?_
      refine tn ?_
      refine CW.seq ?_
      refine CW.seq ?_
      refine CW.region ?_
      have q45 := Box.ex q25 hE32
      have q46 := Box.ex q45 hE43
      refine SeqR.d1 rfl rfl rfl (yl_loadN (cs := [.string (bs (p_a.Name)), .slice A1 p_a.Cols.length c1, .slice A2 p_a.Idxs.length c2]) Try.ty35 rfl rfl (q46.cells (n := 3) rfl) rfl ?_)
      have q47 := Box.ex q34 hE43
      refine SeqR.d1 rfl rfl rfl (yl_loadN (cs := [.string (bs (p_b.Name)), .slice A4 p_b.Cols.length c4, .slice A5 p_b.Idxs.length c5]) Try.ty35 rfl rfl (q47.cells (n := 3) rfl) rfl ?_)
      have q48 := RdS.ex good_Str q27 hE32
      have q49 := RdS.ex good_Str q48 hE43
      have q50 := RdS.ex good_Idx q29 hE32
      have q51 := RdS.ex good_Idx q50 hE43
      have q52 := RdS.ex good_Str q37 hE43
      have q53 := RdS.ex good_Idx q40 hE43
      refine SeqR.d1 rfl rfl rfl (yl_call Try.en94 rfl (opvs_cons rfl (opvs_cons rfl opvs_nil)) (Cal.mono (c_i_sameTable p_a p_b (RdS.up q49 good_Str) (RdS.up q51 good_Idx) (RdS.up q52 good_Str) (RdS.up q53 good_Idx) o3 o6) ?_))
      rintro v55 w54 ⟨rfl, hE56⟩
      have hE56z := Ex.size hE56
      refine SeqR.done ?_
      refine tn ?_
      refine bcase (i_sameTable p_a p_b) (fun hb57 => ?_) (fun hb57 => ?_)
      · skip
        refine CW.cond_t rfl hb57 ?_
        refine CW.seq ?_
        refine CW.region ?_
        refine SeqR.d1 rfl rfl rfl (yl_assign rfl rfl ?_)
        refine SeqR.d1 rfl rfl rfl (yl_assign rfl rfl ?_)
        refine SeqR.done ?_
        refine tn ?_
        refine CW.ret ?_
        refine tr ?_
        refine rr rfl (.cons rfl (.cons rfl .nil)) ?_
        have hM58 : (i_NextTo p_a p_b) = ((true, true)) := by simp only [i_NextTo, hb33, hb44, hb57, cond_true, cond_false, loopE_done, loopE_ret]
        rw [hM58]
        have q59 := Ex.trans (Ex.refl w) hE18
        have q60 := Ex.trans q59 hE24
        have q61 := Ex.trans q60 hE32
        have q62 := Ex.trans q61 hE43
        have q63 := Ex.trans q62 hE56
        exact ⟨rfl, q63⟩
      · skip
        refine CW.cond_f rfl hb57 ?_
        refine CW.skip ?_
        refine tn ?_
        refine CW.seq ?_
        refine CW.seq ?_
        refine CW.region ?_
        refine SeqR.d1 rfl rfl rfl (yl_fieldAddr Try.fd35_2 rfl rfl ?_)
        have q64 := Box.ex q46 hE56
        refine SeqR.d1 rfl rfl rfl (yl_load1 Try.ty33 rfl rfl ((q64.cell 2).trans rfl) ?_)
        refine SeqR.d1 rfl rfl rfl (yl_len Try.un33 rfl rfl ?_)
        refine SeqR.d1 rfl rfl rfl (yl_move rfl rfl ?_)
        refine SeqR.done ?_
        refine tn ?_
        refine CW.block ?_
        have q95 := RdS.ex good_Str q49 hE56
        have q96 := RdS.ex good_Idx q51 hE56
        have q97 := Box.ex q47 hE56
        have q98 := RdS.ex good_Str q52 hE56
        have q99 := RdS.ex good_Idx q53 hE56
        have q100 := Ex.trans (Ex.refl w) hE18
        have q101 := Ex.trans q100 hE24
        have q102 := Ex.trans q101 hE32
        have q103 := Ex.trans q102 hE43
        have q104 := Ex.trans q103 hE56
        refine CW.loop (fun m92 L93 w94 => ∃ (k65 : Nat), m92 = p_a.Idxs.length - k65 ∧ k65 ≤ p_a.Idxs.length ∧ w54.heap.size ≤ w94.heap.size ∧ lkp L93 2 = some (.pointer (some ⟨b13, 0, none⟩)) ∧ lkp L93 3 = some (.pointer (some ⟨b19, 0, none⟩)) ∧ lkp L93 22 = some (.slice A2 p_a.Idxs.length c2) ∧ lkp L93 23 = some (.int .i64 ((p_a.Idxs.length : Int))) ∧ lkp L93 24 = some (.int .i64 ((k65 : Int))) ∧ Box w94 b13 35 [.string (bs (p_a.Name)), .slice A1 p_a.Cols.length c1, .slice A2 p_a.Idxs.length c2] ∧ RdS w94 (Iv 0 w.heap.size) (RF e_Str) 1 A1 p_a.Cols.length c1 p_a.Cols ∧ RdS w94 (Iv 0 w.heap.size) (RF e_Idx) 3 A2 p_a.Idxs.length c2 p_a.Idxs ∧ Box w94 b19 35 [.string (bs (p_b.Name)), .slice A4 p_b.Cols.length c4, .slice A5 p_b.Idxs.length c5] ∧ RdS w94 (Iv 0 w.heap.size) (RF e_Str) 1 A4 p_b.Cols.length c4 p_b.Cols ∧ RdS w94 (Iv 0 w.heap.size) (RF e_Idx) 3 A5 p_b.Idxs.length c5 p_b.Idxs ∧ Ex w w94 ∧ loopM (B_i_NextTo_0 p_a p_b) (p_a.Idxs.length - k65) k65 () = loopM (B_i_NextTo_0 p_a p_b) (p_a.Idxs.length - 0) 0 ()) (p_a.Idxs.length - 0) ?_ ?_
        · exact ⟨0, rfl, (by omega), Nat.le_refl _, rfl, rfl, rfl, rfl, rfl, q64, q95, q96, q97, q98, q99, q104, rfl⟩
        · rintro m105 L106 w107 ⟨k65, rfl, hk108, hsz110, hl111, hl112, hl113, hl114, hl115, hf116, hf117, hf118, hf119, hf120, hf121, hf122, hI109⟩
          refine CW.sub (Sub.cons hl111 (Sub.cons hl112 (Sub.cons hl113 (Sub.cons hl114 (Sub.cons hl115 (Sub.nil _)))))) ?_
          have hf116z := Box.lt hf116
          have hf119z := Box.lt hf119
          have hf122z := Ex.size hf122
          have hbg123 := RdS.big hf118
          rcases Nat.lt_or_ge k65 p_a.Idxs.length with hlt124 | hlt124
          · skip
            refine CW.seq ?_
            refine CW.region ?_
            refine SeqR.d1 rfl rfl rfl (yl_lss rfl rfl rfl ?_)
            refine SeqR.done ?_
            refine tn ?_
            refine CW.seq ?_
            refine CW.cond_t rfl (lt_t hlt124) ?_
            refine CW.skip ?_
            refine tn ?_
            refine CW.seq ?_
            refine CW.block ?_
            refine CW.seq ?_
            refine CW.region ?_
            obtain ⟨eb125, eo125, ec125, eA125, eS125, ebl125, el125, eR125, eC125⟩ := RdS.atD hf118 d_Idx (i := k65) (by first | omega | assumption)
            obtain rfl := eR125
            have eC125 : Cells w107 eb125 (eo125 + k65 * 3) [.string (bs ((p_a.Idxs.getD k65 d_Idx).Name)), .int .i64 ((p_a.Idxs.getD k65 d_Idx).Col), .int .i64 ((p_a.Idxs.getD k65 d_Idx).Stage)] := eC125
            refine SeqR.d1 rfl rfl rfl (yl_indexAddrN Try.un33 Try.ty132 rfl rfl rfl eA125 (by first | omega | assumption | (simp only [IntKind.wrap_i64] at *; omega)) ?_)
            refine SeqR.d1 rfl rfl rfl (yl_loadN (cs := [.string (bs ((p_a.Idxs.getD k65 d_Idx).Name)), .int .i64 ((p_a.Idxs.getD k65 d_Idx).Col), .int .i64 ((p_a.Idxs.getD k65 d_Idx).Stage)]) Try.ty132 rfl rfl eC125 rfl ?_)
            refine SeqR.d1 rfl rfl rfl (yl_alloc Try.ty132 (cs := [.string (bs (([] : Str))), .int .i64 (0), .int .i64 (0)]) rfl rfl ?_)
            intro b126 w127 hs128 hz129 hB130 hE131
            refine SeqR.u rfl rfl (yl_store (vs := [.string (bs ((p_a.Idxs.getD k65 d_Idx).Name)), .int .i64 ((p_a.Idxs.getD k65 d_Idx).Col), .int .i64 ((p_a.Idxs.getD k65 d_Idx).Stage)]) Try.ty132 rfl rfl rfl rfl rfl rfl hB130 (Nat.le_of_ble_eq_true rfl) ?_)
            intro w132 hB133 hO134
            have hB133 : Box w132 b126 132 [.string (bs ((p_a.Idxs.getD k65 d_Idx).Name)), .int .i64 ((p_a.Idxs.getD k65 d_Idx).Col), .int .i64 ((p_a.Idxs.getD k65 d_Idx).Stage)] := hB133
            have hO134z := hO134.size
            refine SeqR.done ?_
            refine tn ?_
            refine CW.seq ?_
            refine CW.region ?_
            refine SeqR.d1 rfl rfl rfl (yl_fieldAddr Try.fd132_2 rfl rfl ?_)
            refine SeqR.d1 rfl rfl rfl (yl_load1 Try.ty3 rfl rfl ((hB133.cell 2).trans rfl) ?_)
            refine SeqR.d1 rfl rfl rfl (yl_sub rfl rfl rfl ?_)
            refine SeqR.d1 rfl rfl rfl (yl_fieldAddr Try.fd132_2 rfl rfl ?_)
            refine SeqR.d1 rfl rfl rfl (yl_load1 Try.ty3 rfl rfl ((hB133.cell 2).trans rfl) ?_)
            refine SeqR.d1 rfl rfl rfl (yl_add rfl rfl rfl ?_)
            refine SeqR.d1 rfl rfl rfl (yl_buildSlice (cs := [.int .i64 (IntKind.wrap .i64 (((p_a.Idxs.getD k65 d_Idx).Stage) - 1)), .int .i64 (IntKind.wrap .i64 (((p_a.Idxs.getD k65 d_Idx).Stage) + 1))]) Try.un103 Try.ty3 (by decide) rfl (opvs_cons rfl (opvs_cons rfl opvs_nil)) (by kernel_rfl) ?_)
            intro b135 w136 hs137 hz138 hB139 hE140
            have hO141 : OwnL w136 b135 (b135 + 1) 3 1 (RF e_Int) (some ⟨b135, 0, none⟩) 2 2 ([IntKind.wrap .i64 (((p_a.Idxs.getD k65 d_Idx).Stage) - 1), IntKind.wrap .i64 (((p_a.Idxs.getD k65 d_Idx).Stage) + 1)] : List Int) := OwnL.of_box (S := fun _ => False) hB139 (Nat.le_refl _) (Nat.lt_succ_self _) (EncL.cons (c := [.int .i64 (IntKind.wrap .i64 (((p_a.Idxs.getD k65 d_Idx).Stage) - 1))]) rfl rfl (EncL.cons (c := [.int .i64 (IntKind.wrap .i64 (((p_a.Idxs.getD k65 d_Idx).Stage) + 1))]) rfl rfl EncL.nil)) (Nat.le_of_ble_eq_true rfl) (fun h => h) (fun _ h => False.elim h)
            refine SeqR.d1 rfl rfl rfl (yl_len Try.un103 rfl rfl ?_)
            refine SeqR.d1 rfl rfl rfl (yl_move rfl rfl ?_)
            refine SeqR.done ?_
            refine tn ?_
            refine CW.block ?_
            have q146 := Box.ex hf116 hE131
            have q147 := Box.only q146 hO134 (by omega)
            have q148 := Box.ex q147 hE140
            have q149 := RdS.ex good_Str hf117 hE131
            have q150 := RdS.only good_Str q149 hO134 (by simp only [Iv]; omega)
            have q151 := RdS.ex good_Str q150 hE140
            have q152 := RdS.ex good_Idx hf118 hE131
            have q153 := RdS.only good_Idx q152 hO134 (by simp only [Iv]; omega)
            have q154 := RdS.ex good_Idx q153 hE140
            have q155 := Box.ex hf119 hE131
            have q156 := Box.only q155 hO134 (by omega)
            have q157 := Box.ex q156 hE140
            have q158 := RdS.ex good_Str hf120 hE131
            have q159 := RdS.only good_Str q158 hO134 (by simp only [Iv]; omega)
            have q160 := RdS.ex good_Str q159 hE140
            have q161 := RdS.ex good_Idx hf121 hE131
            have q162 := RdS.only good_Idx q161 hO134 (by simp only [Iv]; omega)
            have q163 := RdS.ex good_Idx q162 hE140
            have q164 := Box.ex hB133 hE140
            have q165 := Ex.trans hf122 hE131
            have q166 := Below.only q165 hO134 (by omega)
            have q167 := Ex.trans q166 hE140
            refine CW.loop (fun m143 L144 w145 => ∃ (k142 : Nat), m143 = 2 - k142 ∧ k142 ≤ 2 ∧ w136.heap.size ≤ w145.heap.size ∧ lkp L144 2 = some (.pointer (some ⟨b13, 0, none⟩)) ∧ lkp L144 3 = some (.pointer (some ⟨b19, 0, none⟩)) ∧ lkp L144 7 = some (.pointer (some ⟨b126, 0, none⟩)) ∧ lkp L144 22 = some (.slice A2 p_a.Idxs.length c2) ∧ lkp L144 23 = some (.int .i64 ((p_a.Idxs.length : Int))) ∧ lkp L144 24 = some (.int .i64 ((k65 : Int))) ∧ lkp L144 34 = some (.slice (some ⟨b135, 0, none⟩) 2 2) ∧ lkp L144 35 = some (.int .i64 ((2 : Int))) ∧ lkp L144 36 = some (.int .i64 ((k142 : Int))) ∧ Box w145 b13 35 [.string (bs (p_a.Name)), .slice A1 p_a.Cols.length c1, .slice A2 p_a.Idxs.length c2] ∧ RdS w145 (Iv 0 w.heap.size) (RF e_Str) 1 A1 p_a.Cols.length c1 p_a.Cols ∧ RdS w145 (Iv 0 w.heap.size) (RF e_Idx) 3 A2 p_a.Idxs.length c2 p_a.Idxs ∧ Box w145 b19 35 [.string (bs (p_b.Name)), .slice A4 p_b.Cols.length c4, .slice A5 p_b.Idxs.length c5] ∧ RdS w145 (Iv 0 w.heap.size) (RF e_Str) 1 A4 p_b.Cols.length c4 p_b.Cols ∧ RdS w145 (Iv 0 w.heap.size) (RF e_Idx) 3 A5 p_b.Idxs.length c5 p_b.Idxs ∧ Box w145 b126 132 [.string (bs ((p_a.Idxs.getD k65 d_Idx).Name)), .int .i64 ((p_a.Idxs.getD k65 d_Idx).Col), .int .i64 ((p_a.Idxs.getD k65 d_Idx).Stage)] ∧ OwnL w145 b135 (b135 + 1) 3 1 (RF e_Int) (some ⟨b135, 0, none⟩) 2 2 ([IntKind.wrap .i64 (((p_a.Idxs.getD k65 d_Idx).Stage) - 1), IntKind.wrap .i64 (((p_a.Idxs.getD k65 d_Idx).Stage) + 1)] : List Int) ∧ Ex w w145 ∧ loopM (B_i_NextTo_1 p_a p_b k65) (2 - k142) k142 () = loopM (B_i_NextTo_1 p_a p_b k65) (2 - 0) 0 ()) (2 - 0) ?_ ?_
            · exact ⟨0, rfl, (by omega), Nat.le_refl _, rfl, rfl, rfl, rfl, rfl, rfl, rfl, rfl, rfl, q148, q151, q154, q157, q160, q163, q164, hO141, q167, rfl⟩
            · rintro m168 L169 w170 ⟨k142, rfl, hk171, hsz173, hl174, hl175, hl176, hl177, hl178, hl179, hl180, hl181, hl182, hf183, hf184, hf185, hf186, hf187, hf188, hf189, hf190, hf191, hI172⟩
              refine CW.sub (Sub.cons hl174 (Sub.cons hl175 (Sub.cons hl176 (Sub.cons hl177 (Sub.cons hl178 (Sub.cons hl179 (Sub.cons hl180 (Sub.cons hl181 (Sub.cons hl182 (Sub.nil _)))))))))) ?_
              have hf183z := Box.lt hf183
              have hf186z := Box.lt hf186
              have hf189z := Box.lt hf189
              have hf191z := Ex.size hf191
              have q193 := OwnL.rd good_Int hf190
              have hbg192 := RdS.big q193
              rcases Nat.lt_or_ge k142 2 with hlt194 | hlt194
              · skip
                refine CW.seq ?_
                refine CW.region ?_
                refine SeqR.d1 rfl rfl rfl (yl_lss rfl rfl rfl ?_)
                refine SeqR.done ?_
                refine tn ?_
                refine CW.seq ?_
                refine CW.cond_t rfl (lt_t hlt194) ?_
                refine CW.skip ?_
                refine tn ?_
                refine CW.seq ?_
                refine CW.block ?_
                refine CW.seq ?_
                refine CW.region ?_
                have q195 := OwnL.rd good_Int hf190
                obtain ⟨eb196, eo196, ec196, eA196, eS196, ebl196, el196, eR196, eC196⟩ := RdS.atD q195 d_Int (i := k142) (by first | omega | assumption)
                obtain rfl := eR196
                have eC196 : Cells w170 eb196 (eo196 + k142 * 1) [.int .i64 ((([IntKind.wrap .i64 (((p_a.Idxs.getD k65 d_Idx).Stage) - 1), IntKind.wrap .i64 (((p_a.Idxs.getD k65 d_Idx).Stage) + 1)] : List Int).getD k142 d_Int))] := eC196
                refine SeqR.d1 rfl rfl rfl (yl_indexAddrN Try.un103 Try.ty3 rfl rfl rfl eA196 (by first | omega | assumption | (simp only [IntKind.wrap_i64] at *; omega)) ?_)
                refine SeqR.d1 rfl rfl rfl (yl_load1 Try.ty3 rfl rfl (eC196 0 _ rfl) ?_)
                refine SeqR.d1 rfl rfl rfl (yl_assign rfl rfl ?_)
                refine SeqR.done ?_
                refine tn ?_
                refine CW.seq ?_
                refine CW.drawsI 7 (vgetI [DetI (.agg #[.string (bs (p_a.Name)), .slice A1 p_a.Cols.length c1, .slice A2 p_a.Idxs.length c2]), DetI (.pointer (some ⟨b126, 0 + 0, none⟩)), DetI (.string (bs ((p_a.Idxs.getD k65 d_Idx).Name))), DetI (.int .i64 ((([IntKind.wrap .i64 (((p_a.Idxs.getD k65 d_Idx).Stage) - 1), IntKind.wrap .i64 (((p_a.Idxs.getD k65 d_Idx).Stage) + 1)] : List Int).getD k142 d_Int))), fun lo hi v wq => ∃ A198 c198 lo198 hi198 A199 c199 lo199 hi199, v = .agg #[.string (bs ((i_Table_withStage p_a ((p_a.Idxs.getD k65 d_Idx).Name) (([IntKind.wrap .i64 (((p_a.Idxs.getD k65 d_Idx).Stage) - 1), IntKind.wrap .i64 (((p_a.Idxs.getD k65 d_Idx).Stage) + 1)] : List Int).getD k142 d_Int)).Name)), .slice A198 (((i_Table_withStage p_a ((p_a.Idxs.getD k65 d_Idx).Name) (([IntKind.wrap .i64 (((p_a.Idxs.getD k65 d_Idx).Stage) - 1), IntKind.wrap .i64 (((p_a.Idxs.getD k65 d_Idx).Stage) + 1)] : List Int).getD k142 d_Int)).Cols).length) c198, .slice A199 (((i_Table_withStage p_a ((p_a.Idxs.getD k65 d_Idx).Name) (([IntKind.wrap .i64 (((p_a.Idxs.getD k65 d_Idx).Stage) - 1), IntKind.wrap .i64 (((p_a.Idxs.getD k65 d_Idx).Stage) + 1)] : List Int).getD k142 d_Int)).Idxs).length) c199] ∧ OwnL wq lo198 hi198 9 1 (RF e_Str) A198 (((i_Table_withStage p_a ((p_a.Idxs.getD k65 d_Idx).Name) (([IntKind.wrap .i64 (((p_a.Idxs.getD k65 d_Idx).Stage) - 1), IntKind.wrap .i64 (((p_a.Idxs.getD k65 d_Idx).Stage) + 1)] : List Int).getD k142 d_Int)).Cols).length) c198 ((i_Table_withStage p_a ((p_a.Idxs.getD k65 d_Idx).Name) (([IntKind.wrap .i64 (((p_a.Idxs.getD k65 d_Idx).Stage) - 1), IntKind.wrap .i64 (((p_a.Idxs.getD k65 d_Idx).Stage) + 1)] : List Int).getD k142 d_Int)).Cols) ∧ OwnL wq lo199 hi199 132 3 (RF e_Idx) A199 (((i_Table_withStage p_a ((p_a.Idxs.getD k65 d_Idx).Name) (([IntKind.wrap .i64 (((p_a.Idxs.getD k65 d_Idx).Stage) - 1), IntKind.wrap .i64 (((p_a.Idxs.getD k65 d_Idx).Stage) + 1)] : List Int).getD k142 d_Int)).Idxs).length) c199 ((i_Table_withStage p_a ((p_a.Idxs.getD k65 d_Idx).Name) (([IntKind.wrap .i64 (((p_a.Idxs.getD k65 d_Idx).Stage) - 1), IntKind.wrap .i64 (((p_a.Idxs.getD k65 d_Idx).Stage) + 1)] : List Int).getD k142 d_Int)).Idxs) ∧ ok_Table (i_Table_withStage p_a ((p_a.Idxs.getD k65 d_Idx).Name) (([IntKind.wrap .i64 (((p_a.Idxs.getD k65 d_Idx).Stage) - 1), IntKind.wrap .i64 (((p_a.Idxs.getD k65 d_Idx).Stage) + 1)] : List Int).getD k142 d_Int)) ∧ (lo ≤ lo198 ∧ lo198 ≤ hi198 ∧ hi198 ≤ hi) ∧ (lo ≤ lo199 ∧ lo199 ≤ hi199 ∧ hi199 ≤ hi) ∧ (hi198 ≤ lo199 ∨ hi199 ≤ lo198), DetI (.agg #[.string (bs (p_b.Name)), .slice A4 p_b.Cols.length c4, .slice A5 p_b.Idxs.length c5]), DetI (.bool ((i_sameTable (i_Table_withStage p_a ((p_a.Idxs.getD k65 d_Idx).Name) (([IntKind.wrap .i64 (((p_a.Idxs.getD k65 d_Idx).Stage) - 1), IntKind.wrap .i64 (((p_a.Idxs.getD k65 d_Idx).Stage) + 1)] : List Int).getD k142 d_Int)) p_b)))]) Try.follows rfl rfl rfl rfl rfl rfl (vgetI_stable ⟨StableI.det _, StableI.det _, StableI.det _, StableI.det _, (fun _ _ _ _ _ ⟨A198, c198, lo198, hi198, A199, c199, lo199, hi199, hv, h198, h199, ho200, hr0, hr1, hr2⟩ e => ⟨A198, c198, lo198, hi198, A199, c199, lo199, hi199, hv, OwnL.ex good_Str h198 e, OwnL.ex good_Idx h199 e, ho200, hr0, hr1, hr2⟩), StableI.det _, StableI.det _, trivial⟩) ⟨?_, ?_, ?_, ?_, ?_, ?_, ?_, trivial⟩ ?_
                · intro L202 w203 hi204
                  have hE205 := hi204.ex
                  have hE205z := Ex.size hE205
                  have hx206 := hi204.old 2 _ rfl rfl
                  have q207 := Box.ex hf183 hE205
                  exact OpR.op' rfl (Yl.sameI (yl_loadN (cs := [.string (bs (p_a.Name)), .slice A1 p_a.Cols.length c1, .slice A2 p_a.Idxs.length c2]) Try.ty35 rfl hx206 (q207.cells (n := 3) rfl) rfl ⟨fun _ _ => rfl, rfl⟩))
                · intro L208 w209 hi210
                  have hE211 := hi210.ex
                  have hE211z := Ex.size hE211
                  have hx212 := hi210.old 7 _ rfl rfl
                  exact OpR.op' rfl (Yl.sameI (yl_fieldAddr Try.fd132_0 rfl hx212 ⟨fun _ _ => rfl, rfl⟩))
                · intro L213 w214 hi215
                  have hE216 := hi215.ex
                  have hE216z := Ex.size hE216
                  obtain ⟨_, _, _, hx217, -, -, -, rfl⟩ := hi215.dep 1 41 rfl rfl
                  have q218 := Box.ex hf189 hE216
                  exact OpR.op' rfl (Yl.sameI (yl_load1 Try.ty9 rfl hx217 ((q218.cell 0).trans rfl) ⟨fun _ _ => rfl, rfl⟩))
                · intro L219 w220 hi221
                  have hE222 := hi221.ex
                  have hE222z := Ex.size hE222
                  have hx223 := hi221.old 9 _ rfl rfl
                  exact OpR.op' rfl (Yl.sameI (yl_move rfl hx223 ⟨fun _ _ => rfl, rfl⟩))
                · intro L224 w225 hi226
                  have hE227 := hi226.ex
                  have hE227z := Ex.size hE227
                  obtain ⟨_, _, _, hx228, -, -, -, rfl⟩ := hi226.dep 0 40 rfl rfl
                  obtain ⟨_, _, _, hx229, -, -, -, rfl⟩ := hi226.dep 2 42 rfl rfl
                  obtain ⟨_, _, _, hx230, -, -, -, rfl⟩ := hi226.dep 3 43 rfl rfl
                  have q231 := RdS.ex good_Str hf184 hE227
                  have q232 := RdS.ex good_Idx hf185 hE227
                  refine OpR.op' rfl (yl_call Try.en95 rfl (opvs_cons hx228 (opvs_cons hx229 (opvs_cons hx230 opvs_nil))) (Cal.mono (c_i_Table_withStage p_a ((p_a.Idxs.getD k65 d_Idx).Name) (([IntKind.wrap .i64 (((p_a.Idxs.getD k65 d_Idx).Stage) - 1), IntKind.wrap .i64 (((p_a.Idxs.getD k65 d_Idx).Stage) + 1)] : List Int).getD k142 d_Int) (RdS.up q231 good_Str) (RdS.up q232 good_Idx) o3 (okL.getD o3.2.2 ok_d_Idx _) (own_findIdx (t := p_a) (k := k65) (by omega))) ?_))
                  rintro v237 w233 ⟨A234, c234, lo234, hi234, A235, c235, lo235, hi235, rfl, h234, h235, ho236, hrn239, hrn240, hrn241, hE238⟩
                  exact ⟨⟨A234, c234, lo234, hi234, A235, c235, lo235, hi235, rfl, h234, h235, ho236, hrn239, hrn240, hrn241⟩, hE238⟩
                · intro L242 w243 hi244
                  have hE245 := hi244.ex
                  have hE245z := Ex.size hE245
                  have hx246 := hi244.old 3 _ rfl rfl
                  have q247 := Box.ex hf186 hE245
                  exact OpR.op' rfl (Yl.sameI (yl_loadN (cs := [.string (bs (p_b.Name)), .slice A4 p_b.Cols.length c4, .slice A5 p_b.Idxs.length c5]) Try.ty35 rfl hx246 (q247.cells (n := 3) rfl) rfl ⟨fun _ _ => rfl, rfl⟩))
                · intro L248 w249 hi250
                  have hE251 := hi250.ex
                  have hE251z := Ex.size hE251
                  obtain ⟨lo253, hh254, _, hx252, hr255, hr256, hr257, A198_258, c198_259, lo198_260, hi198_261, A199_262, c199_263, lo199_264, hi199_265, rfl, h266, h267, h268, hrn269, hrn270, hrn271⟩ := hi250.dep 4 44 rfl rfl
                  obtain ⟨_, _, _, hx272, -, -, -, rfl⟩ := hi250.dep 5 45 rfl rfl
                  have q273 := OwnL.rd good_Str h266
                  have q274 := OwnL.rd good_Idx h267
                  have q275 := RdS.ex good_Str hf187 hE251
                  have q276 := RdS.ex good_Idx hf188 hE251
                  refine OpR.op' rfl (yl_call Try.en94 rfl (opvs_cons hx252 (opvs_cons hx272 opvs_nil)) (Cal.mono (c_i_sameTable (i_Table_withStage p_a ((p_a.Idxs.getD k65 d_Idx).Name) (([IntKind.wrap .i64 (((p_a.Idxs.getD k65 d_Idx).Stage) - 1), IntKind.wrap .i64 (((p_a.Idxs.getD k65 d_Idx).Stage) + 1)] : List Int).getD k142 d_Int)) p_b (RdS.up q273 good_Str) (RdS.up q274 good_Idx) (RdS.up q275 good_Str) (RdS.up q276 good_Idx) h268 o6) ?_))
                  rintro v278 w277 ⟨rfl, hE279⟩
                  exact ⟨rfl, hE279⟩
                · intro fl283 fh284 L280 w281 hp282
                  have hE285 := hp282.ex
                  have hE285z := Ex.size hE285
                  have hx286 := hp282.old 2 _ rfl rfl
                  have hx287 := hp282.old 3 _ rfl rfl
                  have hx288 := hp282.old 7 _ rfl rfl
                  have hx289 := hp282.old 22 _ rfl rfl
                  have hx290 := hp282.old 23 _ rfl rfl
                  have hx291 := hp282.old 24 _ rfl rfl
                  have hx292 := hp282.old 34 _ rfl rfl
                  have hx293 := hp282.old 35 _ rfl rfl
                  have hx294 := hp282.old 36 _ rfl rfl
                  have hr296 := hp282.rng 4 rfl
                  obtain ⟨_, hx295, A198_297, c198_298, lo198_299, hi198_300, A199_301, c199_302, lo199_303, hi199_304, rfl, h305, h306, h307, hrn308, hrn309, hrn310⟩ := hp282.new 4 44 rfl rfl
                  obtain ⟨_, hx311, rfl⟩ := hp282.new 6 46 rfl rfl
                  refine SeqR.done ?_
                  refine tn ?_
                  refine CW.sub (Sub.cons (d := 2) hx286 (Sub.cons (d := 3) hx287 (Sub.cons (d := 7) hx288 (Sub.cons (d := 22) hx289 (Sub.cons (d := 23) hx290 (Sub.cons (d := 24) hx291 (Sub.cons (d := 34) hx292 (Sub.cons (d := 35) hx293 (Sub.cons (d := 36) hx294 (Sub.cons (d := 46) hx311 (Sub.nil _))))))))))) ?_
                  refine bcase (i_sameTable (i_Table_withStage p_a ((p_a.Idxs.getD k65 d_Idx).Name) (([IntKind.wrap .i64 (((p_a.Idxs.getD k65 d_Idx).Stage) - 1), IntKind.wrap .i64 (((p_a.Idxs.getD k65 d_Idx).Stage) + 1)] : List Int).getD k142 d_Int)) p_b) (fun hb312 => ?_) (fun hb312 => ?_)
                  · skip
                    refine CW.cond_t rfl hb312 ?_
                    refine CW.seq ?_
                    refine CW.region ?_
                    refine SeqR.d1 rfl rfl rfl (yl_assign rfl rfl ?_)
                    refine SeqR.d1 rfl rfl rfl (yl_assign rfl rfl ?_)
                    refine SeqR.done ?_
                    refine tn ?_
                    refine CW.ret ?_
                    refine br ?_
                    refine tr ?_
                    refine tr ?_
                    have hB314 : B_i_NextTo_1 p_a p_b k65 k142 () = .ret (true, true) := by simp only [B_i_NextTo_1, hb33, hb44, hb57, hb312, cond_true, cond_false, loopE_done, loopE_ret]
                    have hL313 : loopM (B_i_NextTo_1 p_a p_b k65) (2 - 0) 0 () = .ret (true, true) := hI172.symm.trans (loopM.ret hlt194 hB314)
                    refine br ?_
                    refine br ?_
                    refine tr ?_
                    refine tr ?_
                    have hB316 : B_i_NextTo_0 p_a p_b k65 () = .ret (true, true) := by simp only [B_i_NextTo_0, hb33, hb44, hb57, hb312, hL313, cond_true, cond_false, loopE_done, loopE_ret]
                    have hL315 : loopM (B_i_NextTo_0 p_a p_b) (p_a.Idxs.length - 0) 0 () = .ret (true, true) := hI109.symm.trans (loopM.ret hlt124 hB316)
                    refine br ?_
                    refine tr ?_
                    refine rr rfl (.cons rfl (.cons rfl .nil)) ?_
                    have hM317 : (i_NextTo p_a p_b) = ((true, true)) := by simp only [i_NextTo, hb33, hb44, hb57, hb312, hL313, hL315, cond_true, cond_false, loopE_done, loopE_ret]
                    rw [hM317]
                    have q318 := Ex.trans hf191 hE285
                    exact ⟨rfl, q318⟩
                  · skip
                    refine CW.cond_f rfl hb312 ?_
                    refine CW.skip ?_
                    refine bn ?_
                    refine tn ?_
                    refine CW.region ?_
                    refine SeqR.d1 rfl rfl rfl (yl_inc rfl rfl rfl (by omega) ?_)
                    refine SeqR.d1 rfl rfl rfl (yl_move rfl rfl ?_)
                    refine SeqR.done ?_
                    refine tn ?_
                    have hB319 : B_i_NextTo_1 p_a p_b k65 k142 () = .cont () := by simp only [B_i_NextTo_1, hb33, hb44, hb57, hb312, cond_true, cond_false, loopE_done, loopE_ret]
                    have q320 := Box.ex hf183 hE285
                    have q321 := RdS.ex good_Str hf184 hE285
                    have q322 := RdS.ex good_Idx hf185 hE285
                    have q323 := Box.ex hf186 hE285
                    have q324 := RdS.ex good_Str hf187 hE285
                    have q325 := RdS.ex good_Idx hf188 hE285
                    have q326 := Box.ex hf189 hE285
                    have q327 := OwnL.ex good_Int hf190 hE285
                    have q328 := Ex.trans hf191 hE285
                    exact ⟨2 - (k142 + 1), by omega, k142 + 1, rfl, hlt194, (by omega), rfl, rfl, rfl, rfl, rfl, rfl, rfl, rfl, rfl, q320, q321, q322, q323, q324, q325, q326, q327, q328, (loopM.cont hlt194 hB319).symm.trans hI172⟩
              · skip
                refine CW.seq ?_
                refine CW.region ?_
                refine SeqR.d1 rfl rfl rfl (yl_lss rfl rfl rfl ?_)
                refine SeqR.done ?_
                refine tn ?_
                refine CW.seq ?_
                refine CW.cond_f rfl (lt_f hlt194) ?_
                refine CW.exit ?_
                refine tx ?_
                refine tx ?_
                have hL329 : loopM (B_i_NextTo_1 p_a p_b k65) (2 - 0) 0 () = .done () := hI172.symm.trans (loopM.stop hlt194)
                refine bx ?_
                refine bn ?_
                refine tn ?_
                refine CW.region ?_
                refine SeqR.d1 rfl rfl rfl (yl_inc rfl rfl rfl (by omega) ?_)
                refine SeqR.d1 rfl rfl rfl (yl_move rfl rfl ?_)
                refine SeqR.done ?_
                refine tn ?_
                have hB330 : B_i_NextTo_0 p_a p_b k65 () = .cont () := by simp only [B_i_NextTo_0, hb33, hb44, hb57, hL329, cond_true, cond_false, loopE_done, loopE_ret]
                exact ⟨p_a.Idxs.length - (k65 + 1), by omega, k65 + 1, rfl, hlt124, (by omega), rfl, rfl, rfl, rfl, rfl, hf183, hf184, hf185, hf186, hf187, hf188, hf191, (loopM.cont hlt124 hB330).symm.trans hI109⟩
          · skip
            refine CW.seq ?_
            refine CW.region ?_
            refine SeqR.d1 rfl rfl rfl (yl_lss rfl rfl rfl ?_)
            refine SeqR.done ?_
            refine tn ?_
            refine CW.seq ?_
            refine CW.cond_f rfl (lt_f hlt124) ?_
            refine CW.exit ?_
            refine tx ?_
            refine tx ?_
            have hL331 : loopM (B_i_NextTo_0 p_a p_b) (p_a.Idxs.length - 0) 0 () = .done () := hI109.symm.trans (loopM.stop hlt124)
            refine bx ?_
            refine tn ?_
            refine CW.seq ?_
            refine CW.region ?_
            refine SeqR.d1 rfl rfl rfl (yl_assign rfl rfl ?_)
            refine SeqR.d1 rfl rfl rfl (yl_assign rfl rfl ?_)
            refine SeqR.done ?_
            refine tn ?_
            refine CW.ret ?_
            refine rr rfl (.cons rfl (.cons rfl .nil)) ?_
            have hM332 : (i_NextTo p_a p_b) = ((false, true)) := by simp only [i_NextTo, hb33, hb44, hb57, hL331, cond_true, cond_false, loopE_done, loopE_ret]
            rw [hM332]
            exact ⟨rfl, hf122⟩
    · skip
      refine CW.cond_t rfl (not_f hb44) ?_
      refine CW.seq ?_
      refine CW.region ?_
      refine SeqR.d1 rfl rfl rfl (yl_assign rfl rfl ?_)
      refine SeqR.d1 rfl rfl rfl (yl_assign rfl rfl ?_)
      refine SeqR.done ?_
      refine tn ?_
      refine CW.ret ?_
      refine tr ?_
      refine rr rfl (.cons rfl (.cons rfl .nil)) ?_
      have hM333 : (i_NextTo p_a p_b) = ((false, false)) := by simp only [i_NextTo, hb33, hb44, cond_true, cond_false, loopE_done, loopE_ret]
      rw [hM333]
      have q334 := Ex.trans (Ex.refl w) hE18
      have q335 := Ex.trans q334 hE24
      have q336 := Ex.trans q335 hE32
      have q337 := Ex.trans q336 hE43
      exact ⟨rfl, q337⟩
  · skip
    refine SeqR.z rfl rfl rfl rfl rfl (not_f hb33) ?_
    refine SeqR.z rfl rfl rfl rfl rfl (not_f hb33) ?_
    refine SeqR.z rfl rfl rfl rfl rfl (not_f hb33) ?_
    refine SeqR.d1 rfl rfl rfl (yl_pick_t rfl rfl (not_f hb33) rfl ?_)
    refine SeqR.done ?_
    refine tn ?_
    refine CW.cond_t rfl rfl ?_
    refine CW.seq ?_
    refine CW.region ?_
    refine SeqR.d1 rfl rfl rfl (yl_assign rfl rfl ?_)
    refine SeqR.d1 rfl rfl rfl (yl_assign rfl rfl ?_)
    refine SeqR.done ?_
    refine tn ?_
    refine CW.ret ?_
    refine tr ?_
    refine rr rfl (.cons rfl (.cons rfl .nil)) ?_
    have hM338 : (i_NextTo p_a p_b) = ((false, false)) := by simp only [i_NextTo, hb33, cond_true, cond_false, loopE_done, loopE_ret]
    rw [hM338]
    have q339 := Ex.trans (Ex.refl w) hE18
    have q340 := Ex.trans q339 hE24
    have q341 := Ex.trans q340 hE32
    exact ⟨rfl, q341⟩
set_option maxRecDepth 100000 in
set_option maxHeartbeats 2000000 in
theorem c_l_FnExactNextTo {A1 : Option Addr} {c1 : Nat} {A2 : Option Addr} {c2 : Nat} {A3 : Option Addr} {c3 : Nat} {A4 : Option Addr} {c4 : Nat} {w : World} (p_aA : DTable) (p_aB : DTable) (h1 : RdS w (Iv 0 w.heap.size) (RF e_Str) 1 A1 p_aA.Cols.length c1 p_aA.Cols) (h2 : RdS w (Iv 0 w.heap.size) (RF e_Idx) 3 A2 p_aA.Idxs.length c2 p_aA.Idxs) (h3 : RdS w (Iv 0 w.heap.size) (RF e_Str) 1 A3 p_aB.Cols.length c3 p_aB.Cols) (h4 : RdS w (Iv 0 w.heap.size) (RF e_Idx) 3 A4 p_aB.Idxs.length c4 p_aB.Idxs) (pre0 : wf_Table p_aA) (pre1 : wf_Table p_aB) : Cal Try.prog 7 #[.agg #[.string (bs (p_aA.Name)), .slice A1 p_aA.Cols.length c1, .slice A2 p_aA.Idxs.length c2], .agg #[.string (bs (p_aB.Name)), .slice A3 p_aB.Cols.length c3, .slice A4 p_aB.Idxs.length c4]] w fun v w' => v = .bool ((l_FnExactNextTo p_aA p_aB)) ∧ Ex w w' := by
  refine Cal.of (vs := [.agg #[.string (bs (p_aA.Name)), .slice A1 p_aA.Cols.length c1, .slice A2 p_aA.Idxs.length c2], .agg #[.string (bs (p_aB.Name)), .slice A3 p_aB.Cols.length c3, .slice A4 p_aB.Idxs.length c4]]) Try.func7 rfl Try.ntmps7 rfl ?_
  refine CW.seq ?_
  refine CW.region ?_
  refine SeqR.d1 rfl rfl rfl (yl_box (cs := [.string (bs (p_aA.Name)), .slice A1 p_aA.Cols.length c1, .slice A2 p_aA.Idxs.length c2]) rfl rfl rfl ?_)
  intro b5 w6 hs7 hz8 hB9 hE10
  refine SeqR.d1 rfl rfl rfl (yl_box (cs := [.string (bs (p_aB.Name)), .slice A3 p_aB.Cols.length c3, .slice A4 p_aB.Idxs.length c4]) rfl rfl rfl ?_)
  intro b11 w12 hs13 hz14 hB15 hE16
  refine SeqR.d1 rfl rfl rfl (yl_assign rfl rfl ?_)
  refine SeqR.done ?_
  refine tn ?_
  refine CW.seq ?_
  refine CW.region ?_
  refine SeqR.d1 rfl rfl rfl (yl_assign rfl rfl ?_)
  refine SeqR.done ?_
  refine tn ?_
  refine CW.seq ?_
  refine CW.region ?_
  have q17 := Box.ex hB9 hE16
  refine SeqR.d1 rfl rfl rfl (yl_loadN (cs := [.string (bs (p_aA.Name)), .slice A1 p_aA.Cols.length c1, .slice A2 p_aA.Idxs.length c2]) Try.ty25 rfl rfl (q17.cells (n := 3) rfl) rfl ?_)
  refine SeqR.d1 rfl rfl rfl (yl_move rfl rfl ?_)
  have q18 := RdS.ex good_Str h1 hE10
  have q19 := RdS.ex good_Str q18 hE16
  have q20 := RdS.ex good_Idx h2 hE10
  have q21 := RdS.ex good_Idx q20 hE16
  refine SeqR.d1 rfl rfl rfl (yl_call Try.en14 rfl (opvs_cons rfl (opvs_cons rfl opvs_nil)) (Cal.mono (c_l_szTable p_aA 1048576 (RdS.up q19 good_Str) (RdS.up q21 good_Idx)) ?_))
  rintro v23 w22 ⟨rfl, hE24⟩
  have hE24z := Ex.size hE24
  refine SeqR.d1 rfl rfl rfl (yl_assign rfl rfl ?_)
  refine SeqR.done ?_
  refine tn ?_
  refine CW.seq ?_
  refine CW.seq ?_
  refine CW.region ?_
  refine SeqR.d1 rfl rfl rfl (yl_move rfl rfl ?_)
  refine SeqR.d1 rfl rfl rfl (yl_lss rfl rfl rfl ?_)
  refine SeqR.done ?_
  refine tn ?_
  refine bcase (decide ((l_szTable p_aA 1048576) < 0)) (fun hb25 => ?_) (fun hb25 => ?_)
  · have hb25p := dec_t hb25
    refine CW.cond_t rfl hb25 ?_
    refine CW.seq ?_
    refine CW.region ?_
    refine SeqR.d1 rfl rfl rfl (yl_assign rfl rfl ?_)
    refine SeqR.done ?_
    refine tn ?_
    refine CW.ret ?_
    refine tr ?_
    refine rr rfl (.cons rfl .nil) ?_
    have hM26 : (l_FnExactNextTo p_aA p_aB) = (true) := by simp only [l_FnExactNextTo, hb25, cond_true, cond_false, loopE_done, loopE_ret]
    rw [hM26]
    have q27 := Ex.trans (Ex.refl w) hE10
    have q28 := Ex.trans q27 hE16
    have q29 := Ex.trans q28 hE24
    exact ⟨rfl, q29⟩
  · have hb25p := dec_f hb25
    refine CW.cond_f rfl hb25 ?_
    refine CW.skip ?_
    refine tn ?_
    refine CW.seq ?_
    refine CW.region ?_
    have q30 := Box.ex hB15 hE24
    refine SeqR.d1 rfl rfl rfl (yl_loadN (cs := [.string (bs (p_aB.Name)), .slice A3 p_aB.Cols.length c3, .slice A4 p_aB.Idxs.length c4]) Try.ty25 rfl rfl (q30.cells (n := 3) rfl) rfl ?_)
    refine SeqR.d1 rfl rfl rfl (yl_move rfl rfl ?_)
    have q31 := RdS.ex good_Str h3 hE10
    have q32 := RdS.ex good_Str q31 hE16
    have q33 := RdS.ex good_Str q32 hE24
    have q34 := RdS.ex good_Idx h4 hE10
    have q35 := RdS.ex good_Idx q34 hE16
    have q36 := RdS.ex good_Idx q35 hE24
    refine SeqR.d1 rfl rfl rfl (yl_call Try.en14 rfl (opvs_cons rfl (opvs_cons rfl opvs_nil)) (Cal.mono (c_l_szTable p_aB (l_szTable p_aA 1048576) (RdS.up q33 good_Str) (RdS.up q36 good_Idx)) ?_))
    rintro v38 w37 ⟨rfl, hE39⟩
    have hE39z := Ex.size hE39
    refine SeqR.d1 rfl rfl rfl (yl_assign rfl rfl ?_)
    refine SeqR.done ?_
    refine tn ?_
    refine CW.seq ?_
    refine CW.seq ?_
    refine CW.region ?_
    refine SeqR.d1 rfl rfl rfl (yl_move rfl rfl ?_)
    refine SeqR.d1 rfl rfl rfl (yl_lss rfl rfl rfl ?_)
    refine SeqR.done ?_
    refine tn ?_
    refine bcase (decide ((l_szTable p_aB (l_szTable p_aA 1048576)) < 0)) (fun hb40 => ?_) (fun hb40 => ?_)
    · have hb40p := dec_t hb40
      refine CW.cond_t rfl hb40 ?_
      refine CW.seq ?_
      refine CW.region ?_
      refine SeqR.d1 rfl rfl rfl (yl_assign rfl rfl ?_)
      refine SeqR.done ?_
      refine tn ?_
      refine CW.ret ?_
      refine tr ?_
      refine rr rfl (.cons rfl .nil) ?_
      have hM41 : (l_FnExactNextTo p_aA p_aB) = (true) := by simp only [l_FnExactNextTo, hb25, hb40, cond_true, cond_false, loopE_done, loopE_ret]
      rw [hM41]
      have q42 := Ex.trans (Ex.refl w) hE10
      have q43 := Ex.trans q42 hE16
      have q44 := Ex.trans q43 hE24
      have q45 := Ex.trans q44 hE39
      exact ⟨rfl, q45⟩
    · have hb40p := dec_f hb40
      refine CW.cond_f rfl hb40 ?_
      refine CW.skip ?_
      refine tn ?_
      refine CW.seq ?_
      have q46 := Box.ex q17 hE24
      have q47 := Box.ex q46 hE39
      have q48 := RdS.ex good_Str q19 hE24
      have q49 := RdS.ex good_Str q48 hE39
      have q50 := RdS.ex good_Idx q21 hE24
      have q51 := RdS.ex good_Idx q50 hE39
      have q55 := Box.ex q30 hE39
      have q56 := RdS.ex good_Str q33 hE39
      have q57 := RdS.ex good_Idx q36 hE39
      refine CW.drawsI 10 (vgetI [DetI (.agg #[.string (bs (p_aA.Name)), .slice A1 p_aA.Cols.length c1, .slice A2 p_aA.Idxs.length c2]), fun lo hi v wq => ∃ A53 c53 lo53 hi53 A54 c54 lo54 hi54, v = .agg #[.string (bs (p_aA.Name)), .slice A53 p_aA.Cols.length c53, .slice A54 p_aA.Idxs.length c54] ∧ OwnL wq lo53 hi53 9 1 (RF e_Str) A53 p_aA.Cols.length c53 p_aA.Cols ∧ OwnL wq lo54 hi54 132 3 (RF e_Idx) A54 p_aA.Idxs.length c54 p_aA.Idxs ∧ (lo ≤ lo53 ∧ lo53 ≤ hi53 ∧ hi53 ≤ hi) ∧ (lo ≤ lo54 ∧ lo54 ≤ hi54 ∧ hi54 ≤ hi) ∧ (hi53 ≤ lo54 ∨ hi54 ≤ lo53), DetI (.agg #[.string (bs (p_aB.Name)), .slice A3 p_aB.Cols.length c3, .slice A4 p_aB.Idxs.length c4]), fun lo hi v wq => ∃ A59 c59 lo59 hi59 A60 c60 lo60 hi60, v = .agg #[.string (bs (p_aB.Name)), .slice A59 p_aB.Cols.length c59, .slice A60 p_aB.Idxs.length c60] ∧ OwnL wq lo59 hi59 9 1 (RF e_Str) A59 p_aB.Cols.length c59 p_aB.Cols ∧ OwnL wq lo60 hi60 132 3 (RF e_Idx) A60 p_aB.Idxs.length c60 p_aB.Idxs ∧ (lo ≤ lo59 ∧ lo59 ≤ hi59 ∧ hi59 ≤ hi) ∧ (lo ≤ lo60 ∧ lo60 ≤ hi60 ∧ hi60 ≤ hi) ∧ (hi59 ≤ lo60 ∨ hi60 ≤ lo59), DetI (.tuple #[.bool ((s_NextTo p_aA p_aB).1), .bool ((s_NextTo p_aA p_aB).2)]), DetI (.tuple #[.bool ((s_NextTo p_aA p_aB).1), .bool ((s_NextTo p_aA p_aB).2)]), DetI (.bool ((s_NextTo p_aA p_aB).1)), DetI (.bool ((s_NextTo p_aA p_aB).2)), DetI (.bool ((s_NextTo p_aA p_aB).1)), DetI (.bool ((s_NextTo p_aA p_aB).2))]) Try.follows rfl rfl rfl rfl rfl rfl (vgetI_stable ⟨StableI.det _, (fun _ _ _ _ _ ⟨A53, c53, lo53, hi53, A54, c54, lo54, hi54, hv, h53, h54, hr0, hr1, hr2⟩ e => ⟨A53, c53, lo53, hi53, A54, c54, lo54, hi54, hv, OwnL.ex good_Str h53 e, OwnL.ex good_Idx h54 e, hr0, hr1, hr2⟩), StableI.det _, (fun _ _ _ _ _ ⟨A59, c59, lo59, hi59, A60, c60, lo60, hi60, hv, h59, h60, hr0, hr1, hr2⟩ e => ⟨A59, c59, lo59, hi59, A60, c60, lo60, hi60, hv, OwnL.ex good_Str h59 e, OwnL.ex good_Idx h60 e, hr0, hr1, hr2⟩), StableI.det _, StableI.det _, StableI.det _, StableI.det _, StableI.det _, StableI.det _, trivial⟩) ⟨?_, ?_, ?_, ?_, ?_, ?_, ?_, ?_, ?_, ?_, trivial⟩ ?_
      · intro L62 w63 hi64
        have hE65 := hi64.ex
        have hE65z := Ex.size hE65
        have hx66 := hi64.old 2 _ rfl rfl
        have q67 := Box.ex q47 hE65
        exact OpR.op' rfl (Yl.sameI (yl_loadN (cs := [.string (bs (p_aA.Name)), .slice A1 p_aA.Cols.length c1, .slice A2 p_aA.Idxs.length c2]) Try.ty25 rfl hx66 (q67.cells (n := 3) rfl) rfl ⟨fun _ _ => rfl, rfl⟩))
      · intro L68 w69 hi70
        have hE71 := hi70.ex
        have hE71z := Ex.size hE71
        obtain ⟨_, _, _, hx72, -, -, -, rfl⟩ := hi70.dep 0 23 rfl rfl
        have q73 := RdS.ex good_Str q49 hE71
        have q74 := RdS.ex good_Idx q51 hE71
        refine OpR.op' rfl (yl_call Try.en17 rfl (opvs_cons hx72 opvs_nil) (Cal.mono (c_l_toTable p_aA (RdS.up q73 good_Str) (RdS.up q74 good_Idx) ((szok_Table pre0 (by decide) (dec_f hb25)).1)) ?_))
        rintro v78 w75 ⟨A76, c76, lo76, hi76, A77, c77, lo77, hi77, rfl, h76, h77, hrn80, hrn81, hrn82, hE79⟩
        exact ⟨⟨A76, c76, lo76, hi76, A77, c77, lo77, hi77, rfl, h76, h77, hrn80, hrn81, hrn82⟩, hE79⟩
      · intro L83 w84 hi85
        have hE86 := hi85.ex
        have hE86z := Ex.size hE86
        have hx87 := hi85.old 3 _ rfl rfl
        have q88 := Box.ex q55 hE86
        exact OpR.op' rfl (Yl.sameI (yl_loadN (cs := [.string (bs (p_aB.Name)), .slice A3 p_aB.Cols.length c3, .slice A4 p_aB.Idxs.length c4]) Try.ty25 rfl hx87 (q88.cells (n := 3) rfl) rfl ⟨fun _ _ => rfl, rfl⟩))
      · intro L89 w90 hi91
        have hE92 := hi91.ex
        have hE92z := Ex.size hE92
        obtain ⟨_, _, _, hx93, -, -, -, rfl⟩ := hi91.dep 2 25 rfl rfl
        have q94 := RdS.ex good_Str q56 hE92
        have q95 := RdS.ex good_Idx q57 hE92
        refine OpR.op' rfl (yl_call Try.en17 rfl (opvs_cons hx93 opvs_nil) (Cal.mono (c_l_toTable p_aB (RdS.up q94 good_Str) (RdS.up q95 good_Idx) ((szok_Table pre1 (szok_Table pre0 (by decide) (dec_f hb25)).2 (dec_f hb40)).1)) ?_))
        rintro v99 w96 ⟨A97, c97, lo97, hi97, A98, c98, lo98, hi98, rfl, h97, h98, hrn101, hrn102, hrn103, hE100⟩
        exact ⟨⟨A97, c97, lo97, hi97, A98, c98, lo98, hi98, rfl, h97, h98, hrn101, hrn102, hrn103⟩, hE100⟩
      · intro L104 w105 hi106
        have hE107 := hi106.ex
        have hE107z := Ex.size hE107
        obtain ⟨lo109, hh110, _, hx108, hr111, hr112, hr113, A53_114, c53_115, lo53_116, hi53_117, A54_118, c54_119, lo54_120, hi54_121, rfl, h122, h123, hrn124, hrn125, hrn126⟩ := hi106.dep 1 24 rfl rfl
        obtain ⟨lo128, hh129, _, hx127, hr130, hr131, hr132, A59_133, c59_134, lo59_135, hi59_136, A60_137, c60_138, lo60_139, hi60_140, rfl, h141, h142, hrn143, hrn144, hrn145⟩ := hi106.dep 3 26 rfl rfl
        have q146 := OwnL.rd good_Str h122
        have q147 := OwnL.rd good_Idx h123
        have q148 := OwnL.rd good_Str h141
        have q149 := OwnL.rd good_Idx h142
        refine OpR.op' rfl (yl_call Try.en37 rfl (opvs_cons hx108 (opvs_cons hx127 opvs_nil)) (Cal.mono (c_s_NextTo p_aA p_aB (RdS.up q146 good_Str) (RdS.up q147 good_Idx) (RdS.up q148 good_Str) (RdS.up q149 good_Idx) ((szok_Table pre0 (by decide) (dec_f hb25)).1) ((szok_Table pre1 (szok_Table pre0 (by decide) (dec_f hb25)).2 (dec_f hb40)).1)) ?_))
        rintro v151 w150 ⟨rfl, hE152⟩
        exact ⟨rfl, hE152⟩
      · intro L153 w154 hi155
        have hE156 := hi155.ex
        have hE156z := Ex.size hE156
        obtain ⟨_, _, _, hx157, -, -, -, rfl⟩ := hi155.dep 4 27 rfl rfl
        exact OpR.op' rfl (Yl.sameI (yl_move rfl hx157 ⟨fun _ _ => rfl, rfl⟩))
      · intro L158 w159 hi160
        have hE161 := hi160.ex
        have hE161z := Ex.size hE161
        obtain ⟨_, _, _, hx162, -, -, -, rfl⟩ := hi160.dep 5 22 rfl rfl
        exact OpR.op' rfl (Yl.sameI (yl_extract rfl hx162 rfl ⟨fun _ _ => rfl, rfl⟩))
      · intro L163 w164 hi165
        have hE166 := hi165.ex
        have hE166z := Ex.size hE166
        obtain ⟨_, _, _, hx167, -, -, -, rfl⟩ := hi165.dep 5 22 rfl rfl
        exact OpR.op' rfl (Yl.sameI (yl_extract rfl hx167 rfl ⟨fun _ _ => rfl, rfl⟩))
      · intro L168 w169 hi170
        have hE171 := hi170.ex
        have hE171z := Ex.size hE171
        obtain ⟨_, _, _, hx172, -, -, -, rfl⟩ := hi170.dep 6 28 rfl rfl
        exact OpR.op' rfl (Yl.sameI (yl_assign rfl hx172 ⟨fun _ _ => rfl, rfl⟩))
      · intro L173 w174 hi175
        have hE176 := hi175.ex
        have hE176z := Ex.size hE176
        obtain ⟨_, _, _, hx177, -, -, -, rfl⟩ := hi175.dep 7 29 rfl rfl
        exact OpR.op' rfl (Yl.sameI (yl_assign rfl hx177 ⟨fun _ _ => rfl, rfl⟩))
      · intro fl181 fh182 L178 w179 hp180
        have hE183 := hp180.ex
        have hE183z := Ex.size hE183
        have hx184 := hp180.old 2 _ rfl rfl
        have hx185 := hp180.old 3 _ rfl rfl
        have hr187 := hp180.rng 1 rfl
        obtain ⟨_, hx186, A53_188, c53_189, lo53_190, hi53_191, A54_192, c54_193, lo54_194, hi54_195, rfl, h196, h197, hrn198, hrn199, hrn200⟩ := hp180.new 1 24 rfl rfl
        have hr202 := hp180.rng 3 rfl
        have hsp203 := hp180.sep 1 3 rfl rfl rfl
        obtain ⟨_, hx201, A59_204, c59_205, lo59_206, hi59_207, A60_208, c60_209, lo60_210, hi60_211, rfl, h212, h213, hrn214, hrn215, hrn216⟩ := hp180.new 3 26 rfl rfl
        obtain ⟨_, hx217, rfl⟩ := hp180.new 8 6 rfl rfl
        obtain ⟨_, hx218, rfl⟩ := hp180.new 9 7 rfl rfl
        refine SeqR.done ?_
        refine tn ?_
        refine CW.sub (Sub.cons (d := 2) hx184 (Sub.cons (d := 3) hx185 (Sub.cons (d := 6) hx217 (Sub.cons (d := 7) hx218 (Sub.nil _))))) ?_
        refine CW.seq ?_
        refine CW.region ?_
        have q219 := Box.ex q47 hE183
        refine SeqR.d1 rfl rfl rfl (yl_loadN (cs := [.string (bs (p_aA.Name)), .slice A1 p_aA.Cols.length c1, .slice A2 p_aA.Idxs.length c2]) Try.ty25 rfl rfl (q219.cells (n := 3) rfl) rfl ?_)
        have q220 := RdS.ex good_Str q49 hE183
        have q221 := RdS.ex good_Idx q51 hE183
        refine SeqR.d1 rfl rfl rfl (yl_call Try.en17 rfl (opvs_cons rfl opvs_nil) (Cal.mono (c_l_toTable p_aA (RdS.up q220 good_Str) (RdS.up q221 good_Idx) ((szok_Table pre0 (by decide) (dec_f hb25)).1)) ?_))
        rintro v225 w222 ⟨A223, c223, lo223, hi223, A224, c224, lo224, hi224, rfl, h223, h224, hrn227, hrn228, hrn229, hE226⟩
        have hE226z := Ex.size hE226
        refine SeqR.d1 rfl rfl rfl (yl_alloc Try.ty35 (cs := [.string (bs (([] : Str))), .slice none 0 0, .slice none 0 0]) rfl rfl ?_)
        intro b230 w231 hs232 hz233 hB234 hE235
        refine SeqR.u rfl rfl (yl_store (vs := [.string (bs (p_aA.Name)), .slice A223 p_aA.Cols.length c223, .slice A224 p_aA.Idxs.length c224]) Try.ty35 rfl rfl rfl rfl rfl rfl hB234 (Nat.le_of_ble_eq_true rfl) ?_)
        intro w236 hB237 hO238
        have hB237 : Box w236 b230 35 [.string (bs (p_aA.Name)), .slice A223 p_aA.Cols.length c223, .slice A224 p_aA.Idxs.length c224] := hB237
        have hO238z := hO238.size
        refine SeqR.done ?_
        refine tn ?_
        refine CW.seq ?_
        refine CW.region ?_
        have q239 := Box.ex q55 hE183
        have q240 := Box.ex q239 hE226
        have q241 := Box.ex q240 hE235
        have q242 := Box.only q241 hO238 (by omega)
        refine SeqR.d1 rfl rfl rfl (yl_loadN (cs := [.string (bs (p_aB.Name)), .slice A3 p_aB.Cols.length c3, .slice A4 p_aB.Idxs.length c4]) Try.ty25 rfl rfl (q242.cells (n := 3) rfl) rfl ?_)
        have q243 := RdS.ex good_Str q56 hE183
        have q244 := RdS.ex good_Str q243 hE226
        have q245 := RdS.ex good_Str q244 hE235
        have q246 := RdS.only good_Str q245 hO238 (by simp only [Iv]; omega)
        have q247 := RdS.ex good_Idx q57 hE183
        have q248 := RdS.ex good_Idx q247 hE226
        have q249 := RdS.ex good_Idx q248 hE235
        have q250 := RdS.only good_Idx q249 hO238 (by simp only [Iv]; omega)
        refine SeqR.d1 rfl rfl rfl (yl_call Try.en17 rfl (opvs_cons rfl opvs_nil) (Cal.mono (c_l_toTable p_aB (RdS.up q246 good_Str) (RdS.up q250 good_Idx) ((szok_Table pre1 (szok_Table pre0 (by decide) (dec_f hb25)).2 (dec_f hb40)).1)) ?_))
        rintro v254 w251 ⟨A252, c252, lo252, hi252, A253, c253, lo253, hi253, rfl, h252, h253, hrn256, hrn257, hrn258, hE255⟩
        have hE255z := Ex.size hE255
        refine SeqR.d1 rfl rfl rfl (yl_alloc Try.ty35 (cs := [.string (bs (([] : Str))), .slice none 0 0, .slice none 0 0]) rfl rfl ?_)
        intro b259 w260 hs261 hz262 hB263 hE264
        refine SeqR.u rfl rfl (yl_store (vs := [.string (bs (p_aB.Name)), .slice A252 p_aB.Cols.length c252, .slice A253 p_aB.Idxs.length c253]) Try.ty35 rfl rfl rfl rfl rfl rfl hB263 (Nat.le_of_ble_eq_true rfl) ?_)
        intro w265 hB266 hO267
        have hB266 : Box w265 b259 35 [.string (bs (p_aB.Name)), .slice A252 p_aB.Cols.length c252, .slice A253 p_aB.Idxs.length c253] := hB266
        have hO267z := hO267.size
        refine SeqR.done ?_
        refine tn ?_
        refine CW.seq ?_
        refine CW.region ?_
        have q268 := Box.ex hB237 hE255
        have q269 := Box.ex q268 hE264
        have q270 := Box.only q269 hO267 (by omega)
        refine SeqR.d1 rfl rfl rfl (yl_loadN (cs := [.string (bs (p_aA.Name)), .slice A223 p_aA.Cols.length c223, .slice A224 p_aA.Idxs.length c224]) Try.ty35 rfl rfl (q270.cells (n := 3) rfl) rfl ?_)
        refine SeqR.d1 rfl rfl rfl (yl_loadN (cs := [.string (bs (p_aB.Name)), .slice A252 p_aB.Cols.length c252, .slice A253 p_aB.Idxs.length c253]) Try.ty35 rfl rfl (hB266.cells (n := 3) rfl) rfl ?_)
        have q272 := OwnL.ex good_Str h223 hE235
        have q273 := OwnL.only good_Str q272 hO238 (by omega)
        have q274 := OwnL.ex good_Str q273 hE255
        have q275 := OwnL.ex good_Str q274 hE264
        have q276 := OwnL.only good_Str q275 hO267 (by omega)
        have q271 := OwnL.rd good_Str q276
        have q278 := OwnL.ex good_Idx h224 hE235
        have q279 := OwnL.only good_Idx q278 hO238 (by omega)
        have q280 := OwnL.ex good_Idx q279 hE255
        have q281 := OwnL.ex good_Idx q280 hE264
        have q282 := OwnL.only good_Idx q281 hO267 (by omega)
        have q277 := OwnL.rd good_Idx q282
        have q284 := OwnL.ex good_Str h252 hE264
        have q285 := OwnL.only good_Str q284 hO267 (by omega)
        have q283 := OwnL.rd good_Str q285
        have q287 := OwnL.ex good_Idx h253 hE264
        have q288 := OwnL.only good_Idx q287 hO267 (by omega)
        have q286 := OwnL.rd good_Idx q288
        refine SeqR.d1 rfl rfl rfl (yl_call Try.en38 rfl (opvs_cons rfl (opvs_cons rfl opvs_nil)) (Cal.mono (c_i_NextTo p_aA p_aB (RdS.up q271 good_Str) (RdS.up q277 good_Idx) (RdS.up q283 good_Str) (RdS.up q286 good_Idx) ((szok_Table pre0 (by decide) (dec_f hb25)).1) ((szok_Table pre1 (szok_Table pre0 (by decide) (dec_f hb25)).2 (dec_f hb40)).1)) ?_))
        rintro v290 w289 ⟨rfl, hE291⟩
        have hE291z := Ex.size hE291
        refine SeqR.d1 rfl rfl rfl (yl_move rfl rfl ?_)
        refine SeqR.d1 rfl rfl rfl (yl_extract rfl rfl rfl ?_)
        refine SeqR.d1 rfl rfl rfl (yl_extract rfl rfl rfl ?_)
        refine SeqR.d1 rfl rfl rfl (yl_assign rfl rfl ?_)
        refine SeqR.d1 rfl rfl rfl (yl_assign rfl rfl ?_)
        refine SeqR.done ?_
        refine tn ?_
        refine CW.seq ?_
        refine CW.seq ?_
        refine CW.region ?_
        refine SeqR.d1 rfl rfl rfl (yl_move rfl rfl ?_)
        refine SeqR.d1 rfl rfl rfl (yl_move rfl rfl ?_)
        refine SeqR.d1 rfl rfl rfl (yl_bneq Try.un4 rfl rfl rfl ?_)
        refine SeqR.d1 rfl rfl rfl (yl_move rfl rfl ?_)
        refine bcase (((i_NextTo p_aA p_aB).1) == ((s_NextTo p_aA p_aB).1)) (fun hb292 => ?_) (fun hb292 => ?_)
        · skip
          refine SeqR.y rfl rfl rfl rfl rfl (not_t hb292) (yl_move rfl rfl ?_)
          refine SeqR.y rfl rfl rfl rfl rfl (not_t hb292) (yl_move rfl rfl ?_)
          refine SeqR.y rfl rfl rfl rfl rfl (not_t hb292) (yl_bneq Try.un4 rfl rfl rfl ?_)
          refine SeqR.d1 rfl rfl rfl (yl_pick_f rfl rfl (not_t hb292) rfl ?_)
          refine SeqR.done ?_
          refine tn ?_
          refine bcase (((i_NextTo p_aA p_aB).2) == ((s_NextTo p_aA p_aB).2)) (fun hb293 => ?_) (fun hb293 => ?_)
          · skip
            refine CW.cond_f rfl (not_t hb293) ?_
            refine CW.skip ?_
            refine tn ?_
            refine CW.seq ?_
            refine CW.seq ?_
            have q294 := Box.ex q270 hE291
            have q295 := Box.ex q219 hE226
            have q296 := Box.ex q295 hE235
            have q297 := Box.only q296 hO238 (by omega)
            have q298 := Box.ex q297 hE255
            have q299 := Box.ex q298 hE264
            have q300 := Box.only q299 hO267 (by omega)
            have q301 := Box.ex q300 hE291
            have q302 := RdS.ex good_Str q220 hE226
            have q303 := RdS.ex good_Str q302 hE235
            have q304 := RdS.only good_Str q303 hO238 (by simp only [Iv]; omega)
            have q305 := RdS.ex good_Str q304 hE255
            have q306 := RdS.ex good_Str q305 hE264
            have q307 := RdS.only good_Str q306 hO267 (by simp only [Iv]; omega)
            have q308 := RdS.ex good_Str q307 hE291
            have q309 := RdS.ex good_Idx q221 hE226
            have q310 := RdS.ex good_Idx q309 hE235
            have q311 := RdS.only good_Idx q310 hO238 (by simp only [Iv]; omega)
            have q312 := RdS.ex good_Idx q311 hE255
            have q313 := RdS.ex good_Idx q312 hE264
            have q314 := RdS.only good_Idx q313 hO267 (by simp only [Iv]; omega)
            have q315 := RdS.ex good_Idx q314 hE291
            have q320 := OwnL.ex good_Str q276 hE291
            have q319 := OwnL.rd good_Str q320
            have q322 := OwnL.ex good_Idx q282 hE291
            have q321 := OwnL.rd good_Idx q322
            refine CW.drawsI 5 (vgetI [DetI (.agg #[.string (bs (p_aA.Name)), .slice A223 p_aA.Cols.length c223, .slice A224 p_aA.Idxs.length c224]), DetI (.agg #[.string (bs (p_aA.Name)), .slice A1 p_aA.Cols.length c1, .slice A2 p_aA.Idxs.length c2]), fun lo hi v wq => ∃ A317 c317 lo317 hi317 A318 c318 lo318 hi318, v = .agg #[.string (bs (p_aA.Name)), .slice A317 p_aA.Cols.length c317, .slice A318 p_aA.Idxs.length c318] ∧ OwnL wq lo317 hi317 9 1 (RF e_Str) A317 p_aA.Cols.length c317 p_aA.Cols ∧ OwnL wq lo318 hi318 132 3 (RF e_Idx) A318 p_aA.Idxs.length c318 p_aA.Idxs ∧ (lo ≤ lo317 ∧ lo317 ≤ hi317 ∧ hi317 ≤ hi) ∧ (lo ≤ lo318 ∧ lo318 ≤ hi318 ∧ hi318 ≤ hi) ∧ (hi317 ≤ lo318 ∨ hi318 ≤ lo317), DetI (.bool ((l_eqTable p_aA p_aA))), DetI (.bool (!(l_eqTable p_aA p_aA)))]) Try.follows rfl rfl rfl rfl rfl rfl (vgetI_stable ⟨StableI.det _, StableI.det _, (fun _ _ _ _ _ ⟨A317, c317, lo317, hi317, A318, c318, lo318, hi318, hv, h317, h318, hr0, hr1, hr2⟩ e => ⟨A317, c317, lo317, hi317, A318, c318, lo318, hi318, hv, OwnL.ex good_Str h317 e, OwnL.ex good_Idx h318 e, hr0, hr1, hr2⟩), StableI.det _, StableI.det _, trivial⟩) ⟨?_, ?_, ?_, ?_, ?_, trivial⟩ ?_
            · intro L324 w325 hi326
              have hE327 := hi326.ex
              have hE327z := Ex.size hE327
              have hx328 := hi326.old 8 _ rfl rfl
              have q329 := Box.ex q294 hE327
              exact OpR.op' rfl (Yl.sameI (yl_loadN (cs := [.string (bs (p_aA.Name)), .slice A223 p_aA.Cols.length c223, .slice A224 p_aA.Idxs.length c224]) Try.ty35 rfl hx328 (q329.cells (n := 3) rfl) rfl ⟨fun _ _ => rfl, rfl⟩))
            · intro L330 w331 hi332
              have hE333 := hi332.ex
              have hE333z := Ex.size hE333
              have hx334 := hi332.old 2 _ rfl rfl
              have q335 := Box.ex q301 hE333
              exact OpR.op' rfl (Yl.sameI (yl_loadN (cs := [.string (bs (p_aA.Name)), .slice A1 p_aA.Cols.length c1, .slice A2 p_aA.Idxs.length c2]) Try.ty25 rfl hx334 (q335.cells (n := 3) rfl) rfl ⟨fun _ _ => rfl, rfl⟩))
            · intro L336 w337 hi338
              have hE339 := hi338.ex
              have hE339z := Ex.size hE339
              obtain ⟨_, _, _, hx340, -, -, -, rfl⟩ := hi338.dep 1 49 rfl rfl
              have q341 := RdS.ex good_Str q308 hE339
              have q342 := RdS.ex good_Idx q315 hE339
              refine OpR.op' rfl (yl_call Try.en17 rfl (opvs_cons hx340 opvs_nil) (Cal.mono (c_l_toTable p_aA (RdS.up q341 good_Str) (RdS.up q342 good_Idx) ((szok_Table pre0 (by decide) (dec_f hb25)).1)) ?_))
              rintro v346 w343 ⟨A344, c344, lo344, hi344, A345, c345, lo345, hi345, rfl, h344, h345, hrn348, hrn349, hrn350, hE347⟩
              exact ⟨⟨A344, c344, lo344, hi344, A345, c345, lo345, hi345, rfl, h344, h345, hrn348, hrn349, hrn350⟩, hE347⟩
            · intro L351 w352 hi353
              have hE354 := hi353.ex
              have hE354z := Ex.size hE354
              obtain ⟨_, _, _, hx355, -, -, -, rfl⟩ := hi353.dep 0 48 rfl rfl
              obtain ⟨lo357, hh358, _, hx356, hr359, hr360, hr361, A317_362, c317_363, lo317_364, hi317_365, A318_366, c318_367, lo318_368, hi318_369, rfl, h370, h371, hrn372, hrn373, hrn374⟩ := hi353.dep 2 50 rfl rfl
              have q376 := OwnL.ex good_Str q320 hE354
              have q375 := OwnL.rd good_Str q376
              have q378 := OwnL.ex good_Idx q322 hE354
              have q377 := OwnL.rd good_Idx q378
              have q379 := OwnL.rd good_Str h370
              have q380 := OwnL.rd good_Idx h371
              refine OpR.op' rfl (yl_call Try.en20 rfl (opvs_cons hx355 (opvs_cons hx356 opvs_nil)) (Cal.mono (c_l_eqTable p_aA p_aA (RdS.up q375 good_Str) (RdS.up q377 good_Idx) (RdS.up q379 good_Str) (RdS.up q380 good_Idx)) ?_))
              rintro v382 w381 ⟨rfl, hE383⟩
              exact ⟨rfl, hE383⟩
            · intro L384 w385 hi386
              have hE387 := hi386.ex
              have hE387z := Ex.size hE387
              obtain ⟨_, _, _, hx388, -, -, -, rfl⟩ := hi386.dep 3 51 rfl rfl
              exact OpR.op' rfl (Yl.sameI (yl_not rfl hx388 ⟨fun _ _ => rfl, rfl⟩))
            · intro fl392 fh393 L389 w390 hp391
              have hE394 := hp391.ex
              have hE394z := Ex.size hE394
              have hx395 := hp391.old 3 _ rfl rfl
              have hx396 := hp391.old 9 _ rfl rfl
              have hr398 := hp391.rng 2 rfl
              obtain ⟨_, hx397, A317_399, c317_400, lo317_401, hi317_402, A318_403, c318_404, lo318_405, hi318_406, rfl, h407, h408, hrn409, hrn410, hrn411⟩ := hp391.new 2 50 rfl rfl
              obtain ⟨_, hx412, rfl⟩ := hp391.new 4 52 rfl rfl
              refine SeqR.done ?_
              refine tn ?_
              refine CW.sub (Sub.cons (d := 3) hx395 (Sub.cons (d := 9) hx396 (Sub.cons (d := 52) hx412 (Sub.nil _)))) ?_
              refine bcase (l_eqTable p_aA p_aA) (fun hb413 => ?_) (fun hb413 => ?_)
              · skip
                refine CW.cond_f rfl (not_t hb413) ?_
                refine CW.skip ?_
                refine tn ?_
                refine CW.seq ?_
                refine CW.seq ?_
                have q414 := Box.ex hB266 hE291
                have q415 := Box.ex q414 hE394
                have q416 := Box.ex q242 hE255
                have q417 := Box.ex q416 hE264
                have q418 := Box.only q417 hO267 (by omega)
                have q419 := Box.ex q418 hE291
                have q420 := Box.ex q419 hE394
                have q421 := RdS.ex good_Str q246 hE255
                have q422 := RdS.ex good_Str q421 hE264
                have q423 := RdS.only good_Str q422 hO267 (by simp only [Iv]; omega)
                have q424 := RdS.ex good_Str q423 hE291
                have q425 := RdS.ex good_Str q424 hE394
                have q426 := RdS.ex good_Idx q250 hE255
                have q427 := RdS.ex good_Idx q426 hE264
                have q428 := RdS.only good_Idx q427 hO267 (by simp only [Iv]; omega)
                have q429 := RdS.ex good_Idx q428 hE291
                have q430 := RdS.ex good_Idx q429 hE394
                have q435 := OwnL.ex good_Str q285 hE291
                have q436 := OwnL.ex good_Str q435 hE394
                have q434 := OwnL.rd good_Str q436
                have q438 := OwnL.ex good_Idx q288 hE291
                have q439 := OwnL.ex good_Idx q438 hE394
                have q437 := OwnL.rd good_Idx q439
                refine CW.drawsI 5 (vgetI [DetI (.agg #[.string (bs (p_aB.Name)), .slice A252 p_aB.Cols.length c252, .slice A253 p_aB.Idxs.length c253]), DetI (.agg #[.string (bs (p_aB.Name)), .slice A3 p_aB.Cols.length c3, .slice A4 p_aB.Idxs.length c4]), fun lo hi v wq => ∃ A432 c432 lo432 hi432 A433 c433 lo433 hi433, v = .agg #[.string (bs (p_aB.Name)), .slice A432 p_aB.Cols.length c432, .slice A433 p_aB.Idxs.length c433] ∧ OwnL wq lo432 hi432 9 1 (RF e_Str) A432 p_aB.Cols.length c432 p_aB.Cols ∧ OwnL wq lo433 hi433 132 3 (RF e_Idx) A433 p_aB.Idxs.length c433 p_aB.Idxs ∧ (lo ≤ lo432 ∧ lo432 ≤ hi432 ∧ hi432 ≤ hi) ∧ (lo ≤ lo433 ∧ lo433 ≤ hi433 ∧ hi433 ≤ hi) ∧ (hi432 ≤ lo433 ∨ hi433 ≤ lo432), DetI (.bool ((l_eqTable p_aB p_aB))), DetI (.bool (!(l_eqTable p_aB p_aB)))]) Try.follows rfl rfl rfl rfl rfl rfl (vgetI_stable ⟨StableI.det _, StableI.det _, (fun _ _ _ _ _ ⟨A432, c432, lo432, hi432, A433, c433, lo433, hi433, hv, h432, h433, hr0, hr1, hr2⟩ e => ⟨A432, c432, lo432, hi432, A433, c433, lo433, hi433, hv, OwnL.ex good_Str h432 e, OwnL.ex good_Idx h433 e, hr0, hr1, hr2⟩), StableI.det _, StableI.det _, trivial⟩) ⟨?_, ?_, ?_, ?_, ?_, trivial⟩ ?_
                · intro L441 w442 hi443
                  have hE444 := hi443.ex
                  have hE444z := Ex.size hE444
                  have hx445 := hi443.old 9 _ rfl rfl
                  have q446 := Box.ex q415 hE444
                  exact OpR.op' rfl (Yl.sameI (yl_loadN (cs := [.string (bs (p_aB.Name)), .slice A252 p_aB.Cols.length c252, .slice A253 p_aB.Idxs.length c253]) Try.ty35 rfl hx445 (q446.cells (n := 3) rfl) rfl ⟨fun _ _ => rfl, rfl⟩))
                · intro L447 w448 hi449
                  have hE450 := hi449.ex
                  have hE450z := Ex.size hE450
                  have hx451 := hi449.old 3 _ rfl rfl
                  have q452 := Box.ex q420 hE450
                  exact OpR.op' rfl (Yl.sameI (yl_loadN (cs := [.string (bs (p_aB.Name)), .slice A3 p_aB.Cols.length c3, .slice A4 p_aB.Idxs.length c4]) Try.ty25 rfl hx451 (q452.cells (n := 3) rfl) rfl ⟨fun _ _ => rfl, rfl⟩))
                · intro L453 w454 hi455
                  have hE456 := hi455.ex
                  have hE456z := Ex.size hE456
                  obtain ⟨_, _, _, hx457, -, -, -, rfl⟩ := hi455.dep 1 54 rfl rfl
                  have q458 := RdS.ex good_Str q425 hE456
                  have q459 := RdS.ex good_Idx q430 hE456
                  refine OpR.op' rfl (yl_call Try.en17 rfl (opvs_cons hx457 opvs_nil) (Cal.mono (c_l_toTable p_aB (RdS.up q458 good_Str) (RdS.up q459 good_Idx) ((szok_Table pre1 (szok_Table pre0 (by decide) (dec_f hb25)).2 (dec_f hb40)).1)) ?_))
                  rintro v463 w460 ⟨A461, c461, lo461, hi461, A462, c462, lo462, hi462, rfl, h461, h462, hrn465, hrn466, hrn467, hE464⟩
                  exact ⟨⟨A461, c461, lo461, hi461, A462, c462, lo462, hi462, rfl, h461, h462, hrn465, hrn466, hrn467⟩, hE464⟩
                · intro L468 w469 hi470
                  have hE471 := hi470.ex
                  have hE471z := Ex.size hE471
                  obtain ⟨_, _, _, hx472, -, -, -, rfl⟩ := hi470.dep 0 53 rfl rfl
                  obtain ⟨lo474, hh475, _, hx473, hr476, hr477, hr478, A432_479, c432_480, lo432_481, hi432_482, A433_483, c433_484, lo433_485, hi433_486, rfl, h487, h488, hrn489, hrn490, hrn491⟩ := hi470.dep 2 55 rfl rfl
                  have q493 := OwnL.ex good_Str q436 hE471
                  have q492 := OwnL.rd good_Str q493
                  have q495 := OwnL.ex good_Idx q439 hE471
                  have q494 := OwnL.rd good_Idx q495
                  have q496 := OwnL.rd good_Str h487
                  have q497 := OwnL.rd good_Idx h488
                  refine OpR.op' rfl (yl_call Try.en20 rfl (opvs_cons hx472 (opvs_cons hx473 opvs_nil)) (Cal.mono (c_l_eqTable p_aB p_aB (RdS.up q492 good_Str) (RdS.up q494 good_Idx) (RdS.up q496 good_Str) (RdS.up q497 good_Idx)) ?_))
                  rintro v499 w498 ⟨rfl, hE500⟩
                  exact ⟨rfl, hE500⟩
                · intro L501 w502 hi503
                  have hE504 := hi503.ex
                  have hE504z := Ex.size hE504
                  obtain ⟨_, _, _, hx505, -, -, -, rfl⟩ := hi503.dep 3 56 rfl rfl
                  exact OpR.op' rfl (Yl.sameI (yl_not rfl hx505 ⟨fun _ _ => rfl, rfl⟩))
                · intro fl509 fh510 L506 w507 hp508
                  have hE511 := hp508.ex
                  have hE511z := Ex.size hE511
                  have hr513 := hp508.rng 2 rfl
                  obtain ⟨_, hx512, A432_514, c432_515, lo432_516, hi432_517, A433_518, c433_519, lo433_520, hi433_521, rfl, h522, h523, hrn524, hrn525, hrn526⟩ := hp508.new 2 55 rfl rfl
                  obtain ⟨_, hx527, rfl⟩ := hp508.new 4 57 rfl rfl
                  refine SeqR.done ?_
                  refine tn ?_
                  refine CW.sub (Sub.cons (d := 57) hx527 (Sub.nil _)) ?_
                  refine bcase (l_eqTable p_aB p_aB) (fun hb528 => ?_) (fun hb528 => ?_)
                  · skip
                    refine CW.cond_f rfl (not_t hb528) ?_
                    refine CW.skip ?_
                    refine tn ?_
                    refine CW.seq ?_
                    refine CW.region ?_
                    refine SeqR.d1 rfl rfl rfl (yl_assign rfl rfl ?_)
                    refine SeqR.done ?_
                    refine tn ?_
                    refine CW.ret ?_
                    refine rr rfl (.cons rfl .nil) ?_
                    have hM529 : (l_FnExactNextTo p_aA p_aB) = (true) := by simp only [l_FnExactNextTo, hb25, hb40, hb292, hb293, hb413, hb528, cond_true, cond_false, loopE_done, loopE_ret]
                    rw [hM529]
                    have q530 := Ex.trans (Ex.refl w) hE10
                    have q531 := Ex.trans q530 hE16
                    have q532 := Ex.trans q531 hE24
                    have q533 := Ex.trans q532 hE39
                    have q534 := Ex.trans q533 hE183
                    have q535 := Ex.trans q534 hE226
                    have q536 := Ex.trans q535 hE235
                    have q537 := Below.only q536 hO238 (by omega)
                    have q538 := Ex.trans q537 hE255
                    have q539 := Ex.trans q538 hE264
                    have q540 := Below.only q539 hO267 (by omega)
                    have q541 := Ex.trans q540 hE291
                    have q542 := Ex.trans q541 hE394
                    have q543 := Ex.trans q542 hE511
                    exact ⟨rfl, q543⟩
                  · skip
                    refine CW.cond_t rfl (not_f hb528) ?_
                    refine CW.seq ?_
                    refine CW.region ?_
                    refine SeqR.d1 rfl rfl rfl (yl_assign rfl rfl ?_)
                    refine SeqR.done ?_
                    refine tn ?_
                    refine CW.ret ?_
                    refine tr ?_
                    refine rr rfl (.cons rfl .nil) ?_
                    have hM544 : (l_FnExactNextTo p_aA p_aB) = (false) := by simp only [l_FnExactNextTo, hb25, hb40, hb292, hb293, hb413, hb528, cond_true, cond_false, loopE_done, loopE_ret]
                    rw [hM544]
                    have q545 := Ex.trans (Ex.refl w) hE10
                    have q546 := Ex.trans q545 hE16
                    have q547 := Ex.trans q546 hE24
                    have q548 := Ex.trans q547 hE39
                    have q549 := Ex.trans q548 hE183
                    have q550 := Ex.trans q549 hE226
                    have q551 := Ex.trans q550 hE235
                    have q552 := Below.only q551 hO238 (by omega)
                    have q553 := Ex.trans q552 hE255
                    have q554 := Ex.trans q553 hE264
                    have q555 := Below.only q554 hO267 (by omega)
                    have q556 := Ex.trans q555 hE291
                    have q557 := Ex.trans q556 hE394
                    have q558 := Ex.trans q557 hE511
                    exact ⟨rfl, q558⟩
              · skip
                refine CW.cond_t rfl (not_f hb413) ?_
                refine CW.seq ?_
                refine CW.region ?_
                refine SeqR.d1 rfl rfl rfl (yl_assign rfl rfl ?_)
                refine SeqR.done ?_
                refine tn ?_
                refine CW.ret ?_
                refine tr ?_
                refine rr rfl (.cons rfl .nil) ?_
                have hM559 : (l_FnExactNextTo p_aA p_aB) = (false) := by simp only [l_FnExactNextTo, hb25, hb40, hb292, hb293, hb413, cond_true, cond_false, loopE_done, loopE_ret]
                rw [hM559]
                have q560 := Ex.trans (Ex.refl w) hE10
                have q561 := Ex.trans q560 hE16
                have q562 := Ex.trans q561 hE24
                have q563 := Ex.trans q562 hE39
                have q564 := Ex.trans q563 hE183
                have q565 := Ex.trans q564 hE226
                have q566 := Ex.trans q565 hE235
                have q567 := Below.only q566 hO238 (by omega)
                have q568 := Ex.trans q567 hE255
                have q569 := Ex.trans q568 hE264
                have q570 := Below.only q569 hO267 (by omega)
                have q571 := Ex.trans q570 hE291
                have q572 := Ex.trans q571 hE394
                exact ⟨rfl, q572⟩
          · skip
            refine CW.cond_t rfl (not_f hb293) ?_
            refine CW.seq ?_
            refine CW.region ?_
            refine SeqR.d1 rfl rfl rfl (yl_assign rfl rfl ?_)
            refine SeqR.done ?_
            refine tn ?_
            refine CW.ret ?_
            refine tr ?_
            refine rr rfl (.cons rfl .nil) ?_
            have hM573 : (l_FnExactNextTo p_aA p_aB) = (false) := by simp only [l_FnExactNextTo, hb25, hb40, hb292, hb293, cond_true, cond_false, loopE_done, loopE_ret]
            rw [hM573]
            have q574 := Ex.trans (Ex.refl w) hE10
            have q575 := Ex.trans q574 hE16
            have q576 := Ex.trans q575 hE24
            have q577 := Ex.trans q576 hE39
            have q578 := Ex.trans q577 hE183
            have q579 := Ex.trans q578 hE226
            have q580 := Ex.trans q579 hE235
            have q581 := Below.only q580 hO238 (by omega)
            have q582 := Ex.trans q581 hE255
            have q583 := Ex.trans q582 hE264
            have q584 := Below.only q583 hO267 (by omega)
            have q585 := Ex.trans q584 hE291
            exact ⟨rfl, q585⟩
        · skip
          refine SeqR.z rfl rfl rfl rfl rfl (not_f hb292) ?_
          refine SeqR.z rfl rfl rfl rfl rfl (not_f hb292) ?_
          refine SeqR.z rfl rfl rfl rfl rfl (not_f hb292) ?_
          refine SeqR.d1 rfl rfl rfl (yl_pick_t rfl rfl (not_f hb292) rfl ?_)
          refine SeqR.done ?_
          refine tn ?_
          refine CW.cond_t rfl rfl ?_
          refine CW.seq ?_
          refine CW.region ?_
          refine SeqR.d1 rfl rfl rfl (yl_assign rfl rfl ?_)
          refine SeqR.done ?_
          refine tn ?_
          refine CW.ret ?_
          refine tr ?_
          refine rr rfl (.cons rfl .nil) ?_
          have hM586 : (l_FnExactNextTo p_aA p_aB) = (false) := by simp only [l_FnExactNextTo, hb25, hb40, hb292, cond_true, cond_false, loopE_done, loopE_ret]
          rw [hM586]
          have q587 := Ex.trans (Ex.refl w) hE10
          have q588 := Ex.trans q587 hE16
          have q589 := Ex.trans q588 hE24
          have q590 := Ex.trans q589 hE39
          have q591 := Ex.trans q590 hE183
          have q592 := Ex.trans q591 hE226
          have q593 := Ex.trans q592 hE235
          have q594 := Below.only q593 hO238 (by omega)
          have q595 := Ex.trans q594 hE255
          have q596 := Ex.trans q595 hE264
          have q597 := Below.only q596 hO267 (by omega)
          have q598 := Ex.trans q597 hE291
          exact ⟨rfl, q598⟩
end Go.Proofs.Ytmlfbjlkccnpmaa
