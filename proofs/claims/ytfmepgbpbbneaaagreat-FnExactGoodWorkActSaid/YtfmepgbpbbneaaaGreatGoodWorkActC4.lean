/- Good Work Act: what each call returns, part 4. -/
import Derived.Test.YtfmepgbpbbneaaaGreatGoodWorkActC3
set_option linter.unusedVariables false
set_option linter.unusedSimpArgs false
namespace Go.Proofs.YtfmepgbpbbneaaaGreat
open Go.RowKit Go.X
set_option maxRecDepth 100000 in
set_option maxHeartbeats 2000000 in
theorem c_i_Table_idx {A1 : Option Addr} {c1 : Nat} {A2 : Option Addr} {c2 : Nat} {w : World} (p_t : DTable) (p_name : Str) (h1 : RdS w (Iv 0 w.heap.size) (RF e_Str) 1 A1 p_t.Cols.length c1 p_t.Cols) (h2 : RdS w (Iv 0 w.heap.size) (RF e_Idx) 3 A2 p_t.Idxs.length c2 p_t.Idxs) (o3 : ok_Table p_t) (o4 : okS p_name) (pre0 : (0 ≤ i_Table_findIdx p_t p_name ∧ i_Table_findIdx p_t p_name < (p_t.Idxs.length : Int))) : Cal Tryz.prog 104 #[.agg #[.string (bs (p_t.Name)), .slice A1 p_t.Cols.length c1, .slice A2 p_t.Idxs.length c2], .string (bs (p_name))] w fun v w' => v = .agg #[.string (bs ((i_Table_idx p_t p_name).Name)), .int .i64 ((i_Table_idx p_t p_name).Col), .int .i64 ((i_Table_idx p_t p_name).Stage)] ∧ ok_Idx (i_Table_idx p_t p_name) ∧ Ex w w' := by
 have hol5 : p_t.Name.length ≤ 1073741824 := o3.1
 have hol6 := o3.2.1.1
 have hol7 := o3.2.2.1
 have hol8 : p_name.length ≤ 1073741824 := o4
 refine Cal.of (vs := [.agg #[.string (bs (p_t.Name)), .slice A1 p_t.Cols.length c1, .slice A2 p_t.Idxs.length c2], .string (bs (p_name))]) Tryz.func104 rfl Tryz.ntmps104 rfl (CW.seq (CW.region (sd rfl (yl_box (cs := [.string (bs (p_t.Name)), .slice A1 p_t.Cols.length c1, .slice A2 p_t.Idxs.length c2]) rfl rfl rfl ?_))))
 intro b9 w10 hs11 hz12 hB13 hE14
 refine sd rfl (yl_alloc Tryz.ty137 (cs := [.string (bs (([] : Str))), .int .i64 (0), .int .i64 (0)]) rfl rfl ?_)
 intro b15 w16 hs17 hz18 hB19 hE20
 refine SeqR.done (tn (CW.seq ?_))
 have q21 := Box.ex hB13 hE20
 have q25 := RdS.ex good_Idx (RdS.ex good_Idx h2 hE14) hE20
 have hrf27 := rf_i_findIdx p_t p_name
 refine CW.drawsI 5 (vgetI [DetI (.pointer (some ⟨b9, 0 + 2, none⟩)), DetI (.slice A2 p_t.Idxs.length c2), DetI (.agg #[.string (bs (p_t.Name)), .slice A1 p_t.Cols.length c1, .slice A2 p_t.Idxs.length c2]), DetI (.string (bs (p_name))), DetI (.int .i64 ((i_Table_findIdx p_t p_name)))]) Tryz.follows rfl rfl rfl rfl rfl rfl (vgetI_stable ⟨StableI.det _, StableI.det _, StableI.det _, StableI.det _, StableI.det _, trivial⟩) ⟨?_, ?_, ?_, ?_, ?_, trivial⟩ ?_
 ·exact fun _ _ h => os rfl ((yl_fieldAddr Tryz.fd95_2 rfl (h.old 2 _ rfl rfl) kI))
 ·exact fun _ _ h => os rfl ((yl_load1 Tryz.ty93 rfl (h.dt 0 5 rfl rfl rfl) (((Box.ex q21 h.ex).cell 2).trans rfl) kI))
 ·exact fun _ _ h => os rfl ((yl_loadN (cs := [.string (bs (p_t.Name)), .slice A1 p_t.Cols.length c1, .slice A2 p_t.Idxs.length c2]) Tryz.ty95 rfl (h.old 2 _ rfl rfl) ((Box.ex q21 h.ex).cells (n := 3) rfl) rfl kI))
 ·exact fun _ _ h => os rfl ((yl_move rfl (h.old 1 _ rfl rfl) kI))
 ·intro L50 w51 hi52
  have hE53 := hi52.ex
  refine OpR.op' rfl (yl_call Tryz.en102 rfl (opvs_cons (hi52.dt 2 7 rfl rfl rfl) (opvs_cons (hi52.dt 3 8 rfl rfl rfl) opvs_nil)) (Cal.mono (c_i_Table_findIdx p_t p_name (RdS.up (RdS.ex good_Str (RdS.ex good_Str (RdS.ex good_Str h1 hE14) hE20) hE53) good_Str) (RdS.up (RdS.ex good_Idx q25 hE53) good_Idx) o3 o4) ?_))
  rintro v59 w58 ⟨rfl, hE60⟩
  exact ⟨rfl, hE60⟩
 ·intro fl64 fh65 L61 w62 hp63
  have hE66 := hp63.ex
  have hE66z := Ex.size hE66
  have hx67 := hp63.old 4 _ rfl rfl
  obtain ⟨eb71, eo71, ec71, eA71, eS71, ebl71, el71, eR71, eC71⟩ := RdS.atD (RdS.ex good_Idx q25 hE66) d_Idx (i := ((i_Table_findIdx p_t p_name)).toNat) (by first | omega | assumption | (simp only [IntKind.wrap_i64] at *; omega))
  obtain rfl := eR71
  have eC71 : Cells w62 eb71 (eo71 + (((i_Table_findIdx p_t p_name)).toNat) * 3) [.string (bs ((p_t.Idxs.getD (((i_Table_findIdx p_t p_name)).toNat) d_Idx).Name)), .int .i64 ((p_t.Idxs.getD (((i_Table_findIdx p_t p_name)).toNat) d_Idx).Col), .int .i64 ((p_t.Idxs.getD (((i_Table_findIdx p_t p_name)).toNat) d_Idx).Stage)] := eC71
  refine sd rfl (yl_indexAddr Tryz.un93 Tryz.ty137 rfl (hp63.nt 1 6 rfl rfl rfl) (hp63.nt 4 9 rfl rfl rfl) eA71 (by first | omega | assumption | (simp only [IntKind.wrap_i64] at *; omega)) (by first | omega | assumption | (simp only [IntKind.wrap_i64] at *; omega)) (sd rfl (yl_loadN (cs := [.string (bs ((p_t.Idxs.getD (((i_Table_findIdx p_t p_name)).toNat) d_Idx).Name)), .int .i64 ((p_t.Idxs.getD (((i_Table_findIdx p_t p_name)).toNat) d_Idx).Col), .int .i64 ((p_t.Idxs.getD (((i_Table_findIdx p_t p_name)).toNat) d_Idx).Stage)]) Tryz.ty137 rfl rfl eC71 rfl (SeqR.u rfl rfl (yl_store (vs := [.string (bs ((p_t.Idxs.getD (((i_Table_findIdx p_t p_name)).toNat) d_Idx).Name)), .int .i64 ((p_t.Idxs.getD (((i_Table_findIdx p_t p_name)).toNat) d_Idx).Col), .int .i64 ((p_t.Idxs.getD (((i_Table_findIdx p_t p_name)).toNat) d_Idx).Stage)]) Tryz.ty137 rfl hx67 rfl rfl rfl rfl (Box.ex hB19 hE66) (Nat.le_of_ble_eq_true rfl) ?_)))))
  intro w73 hB74 hO75
  have hB74 : Box w73 b15 137 [.string (bs ((p_t.Idxs.getD (((i_Table_findIdx p_t p_name)).toNat) d_Idx).Name)), .int .i64 ((p_t.Idxs.getD (((i_Table_findIdx p_t p_name)).toNat) d_Idx).Col), .int .i64 ((p_t.Idxs.getD (((i_Table_findIdx p_t p_name)).toNat) d_Idx).Stage)] := hB74
  have hO75z := hO75.size
  refine SeqR.done (tn (CW.sub (Sub.cons (d := 4) hx67 (Sub.nil _)) (CW.ret (rr rfl (.cons ⟨_, rfl, run_loadN Tryz.ty137 (cs := [.string (bs ((p_t.Idxs.getD (((i_Table_findIdx p_t p_name)).toNat) d_Idx).Name)), .int .i64 ((p_t.Idxs.getD (((i_Table_findIdx p_t p_name)).toNat) d_Idx).Col), .int .i64 ((p_t.Idxs.getD (((i_Table_findIdx p_t p_name)).toNat) d_Idx).Stage)]) rfl (hB74.cells (n := 3) rfl)⟩ .nil) ?_))))
  have hM76 : (i_Table_idx p_t p_name) = ((p_t.Idxs.getD (((i_Table_findIdx p_t p_name)).toNat) d_Idx)) := by simp only [i_Table_idx, cond_true, cond_false, loopE_done, loopE_ret]
  rw [hM76]
  exact ⟨rfl, (okL.getD o3.2.2 ok_d_Idx _), (Below.only (Ex.trans (Ex.trans (Ex.trans (Ex.refl w) hE14) hE20) hE66) hO75 (by omega))⟩
set_option maxRecDepth 100000 in
set_option maxHeartbeats 2000000 in
theorem c_g_slices_Clone_string {A1 : Option Addr} {c1 : Nat} {w : World} (p_s : List Str) (h1 : RdS w (Iv 0 w.heap.size) (RF e_Str) 1 A1 p_s.length c1 p_s) (o2 : (okL okS) p_s) : Cal Tryz.prog 138 #[.slice A1 p_s.length c1] w fun v w' => ∃ A_1 c_1 lo_1 hi_1, v = .slice A_1 ((g_slices_Clone_string p_s).length) c_1 ∧ OwnL w' lo_1 hi_1 9 1 (RF e_Str) A_1 ((g_slices_Clone_string p_s).length) c_1 (g_slices_Clone_string p_s) ∧ (okL okS) (g_slices_Clone_string p_s) ∧ (w.heap.size ≤ lo_1 ∧ lo_1 ≤ hi_1 ∧ hi_1 ≤ w'.heap.size) ∧ Ex w w' := by
 have hol3 := o2.1
 refine Cal.of (vs := [.slice A1 p_s.length c1]) Tryz.func138 rfl Tryz.ntmps138 rfl (CW.seq (CW.region (sd rfl (yl_assign rfl rfl (SeqR.done (tn (CW.seq (CW.seq (CW.region ?_)))))))))
 refine sd rfl (yl_move rfl rfl (sd rfl (yl_snil Tryz.un27 rfl rfl rfl (SeqR.done (tn (bcase (A1.isNone) (fun hb4 => ?_) (fun hb4 => ?_)))))))
 ·have hnil5 : p_s = [] := RdS.nilA h1 hb4
  refine CW.cond_t rfl hb4 (CW.seq (CW.region (sd rfl (yl_assign rfl rfl (SeqR.done (tn (CW.ret (tr (rr rfl (.cons rfl .nil) ?_)))))))))
  have hM6 : (g_slices_Clone_string p_s) = (([] : List Str)) := by simp only [g_slices_Clone_string, hnil5, cond_true, cond_false, loopE_done, loopE_ret, List.append_nil]
  rw [hM6]
  exact ⟨none, 0, w.heap.size, w.heap.size, rfl, (OwnL.nil _ _ _ _ _ _), (okL.nil _), (by omega), (Ex.refl w)⟩
 ·refine CW.cond_f rfl hb4 (CW.skip (tn (CW.seq (CW.region (sd rfl (yl_buildSlice (cs := []) Tryz.un27 Tryz.ty9 (by decide) rfl opvs_nil (by kernel_rfl) ?_))))))
  intro b7 w8 hs9 hz10 hB11 hE12
  have hO13 : OwnL w8 b7 (b7 + 1) 9 1 (RF e_Str) (some ⟨b7, 0, none⟩) 0 0 ([] : List Str) := OwnL.of_box (S := fun _ => False) hB11 (Nat.le_refl _) (Nat.lt_succ_self _) EncL.nil (Nat.le_of_ble_eq_true rfl) (fun h => h) (fun _ h => False.elim h)
  refine sd rfl (yl_move rfl rfl ?_)
  obtain ⟨nw15, he16, hs17⟩ := RdS.src (RdS.ex good_Str h1 hE12)
  have hol18 : p_s.length ≤ 1073741824 := o2.1
  refine sd rfl (yl_appendL (S := (fun _ => False)) (lo := b7) (hi := (b7 + 1)) (xs := ([] : List Str)) (ys := p_s) good_Str Tryz.un27 Tryz.ty9 rfl (Nat.le_of_ble_eq_true rfl) rfl rfl rfl hO13 he16 hs17 rfl (by first | omega | (simp only [List.length_append, List.length_cons, List.length_nil, List.length_take, List.length_drop, List.length_replicate, List.length_set, toS_length]; omega)) (by first | omega | (simp only [List.length_append, List.length_cons, List.length_nil, List.length_take, List.length_drop, List.length_replicate, List.length_set, toS_length]; omega)) (by omega) (by omega) (fun _ h _ => False.elim h) (by omega) ?_)
  intro A19 c20 w21 row22 hO23 hG24 hrg25
  have hG24z := hG24.size
  refine sd rfl (yl_assign rfl rfl (SeqR.done (tn (CW.ret (rr rfl (.cons rfl .nil) ?_)))))
  have hM26 : (g_slices_Clone_string p_s) = ((([] : List Str) ++ p_s)) := by simp only [g_slices_Clone_string, cond_true, cond_false, loopE_done, loopE_ret]
  have hol27 : p_s.length ≤ 1073741824 := o2.1
  rw [hM26]
  exact ⟨A19, c20, b7, w21.heap.size, rfl, hO23, (okL.mk (xs := (([] : List Str) ++ p_s)) (by first | omega | (simp only [List.length_append, List.length_cons, List.length_nil, List.length_take, List.length_drop, List.length_replicate, List.length_set, toS_length]; omega)) (okE.append okE.nil (o2).2)), (by omega), (Below.grown (Ex.trans (Ex.refl w) hE12) hG24 (by omega) (fun k hk => by have := hrg25 k hk; omega))⟩
set_option maxRecDepth 100000 in
set_option maxHeartbeats 2000000 in
theorem c_g_slices_Clone_Idx {A1 : Option Addr} {c1 : Nat} {w : World} (p_s : List DIdx) (h1 : RdS w (Iv 0 w.heap.size) (RF e_Idx) 3 A1 p_s.length c1 p_s) (o2 : (okL ok_Idx) p_s) : Cal Tryz.prog 139 #[.slice A1 p_s.length c1] w fun v w' => ∃ A_1 c_1 lo_1 hi_1, v = .slice A_1 ((g_slices_Clone_Idx p_s).length) c_1 ∧ OwnL w' lo_1 hi_1 137 3 (RF e_Idx) A_1 ((g_slices_Clone_Idx p_s).length) c_1 (g_slices_Clone_Idx p_s) ∧ (okL ok_Idx) (g_slices_Clone_Idx p_s) ∧ (w.heap.size ≤ lo_1 ∧ lo_1 ≤ hi_1 ∧ hi_1 ≤ w'.heap.size) ∧ Ex w w' := by
 have hol3 := o2.1
 refine Cal.of (vs := [.slice A1 p_s.length c1]) Tryz.func139 rfl Tryz.ntmps139 rfl (CW.seq (CW.region (sd rfl (yl_assign rfl rfl (SeqR.done (tn (CW.seq (CW.seq (CW.region ?_)))))))))
 refine sd rfl (yl_move rfl rfl (sd rfl (yl_snil Tryz.un93 rfl rfl rfl (SeqR.done (tn (bcase (A1.isNone) (fun hb4 => ?_) (fun hb4 => ?_)))))))
 ·have hnil5 : p_s = [] := RdS.nilA h1 hb4
  refine CW.cond_t rfl hb4 (CW.seq (CW.region (sd rfl (yl_assign rfl rfl (SeqR.done (tn (CW.ret (tr (rr rfl (.cons rfl .nil) ?_)))))))))
  have hM6 : (g_slices_Clone_Idx p_s) = (([] : List DIdx)) := by simp only [g_slices_Clone_Idx, hnil5, cond_true, cond_false, loopE_done, loopE_ret, List.append_nil]
  rw [hM6]
  exact ⟨none, 0, w.heap.size, w.heap.size, rfl, (OwnL.nil _ _ _ _ _ _), (okL.nil _), (by omega), (Ex.refl w)⟩
 ·refine CW.cond_f rfl hb4 (CW.skip (tn (CW.seq (CW.region (sd rfl (yl_buildSlice (cs := []) Tryz.un93 Tryz.ty137 (by decide) rfl opvs_nil (by kernel_rfl) ?_))))))
  intro b7 w8 hs9 hz10 hB11 hE12
  have hO13 : OwnL w8 b7 (b7 + 1) 137 3 (RF e_Idx) (some ⟨b7, 0, none⟩) 0 0 ([] : List DIdx) := OwnL.of_box (S := fun _ => False) hB11 (Nat.le_refl _) (Nat.lt_succ_self _) EncL.nil (Nat.le_of_ble_eq_true rfl) (fun h => h) (fun _ h => False.elim h)
  refine sd rfl (yl_move rfl rfl ?_)
  obtain ⟨nw15, he16, hs17⟩ := RdS.src (RdS.ex good_Idx h1 hE12)
  have hol18 : p_s.length ≤ 1073741824 := o2.1
  refine sd rfl (yl_appendL (S := (fun _ => False)) (lo := b7) (hi := (b7 + 1)) (xs := ([] : List DIdx)) (ys := p_s) good_Idx Tryz.un93 Tryz.ty137 rfl (Nat.le_of_ble_eq_true rfl) rfl rfl rfl hO13 he16 hs17 rfl (by first | omega | (simp only [List.length_append, List.length_cons, List.length_nil, List.length_take, List.length_drop, List.length_replicate, List.length_set, toS_length]; omega)) (by first | omega | (simp only [List.length_append, List.length_cons, List.length_nil, List.length_take, List.length_drop, List.length_replicate, List.length_set, toS_length]; omega)) (by omega) (by omega) (fun _ h _ => False.elim h) (by omega) ?_)
  intro A19 c20 w21 row22 hO23 hG24 hrg25
  have hG24z := hG24.size
  refine sd rfl (yl_assign rfl rfl (SeqR.done (tn (CW.ret (rr rfl (.cons rfl .nil) ?_)))))
  have hM26 : (g_slices_Clone_Idx p_s) = ((([] : List DIdx) ++ p_s)) := by simp only [g_slices_Clone_Idx, cond_true, cond_false, loopE_done, loopE_ret]
  have hol27 : p_s.length ≤ 1073741824 := o2.1
  rw [hM26]
  exact ⟨A19, c20, b7, w21.heap.size, rfl, hO23, (okL.mk (xs := (([] : List DIdx) ++ p_s)) (by first | omega | (simp only [List.length_append, List.length_cons, List.length_nil, List.length_take, List.length_drop, List.length_replicate, List.length_set, toS_length]; omega)) (okE.append okE.nil (o2).2)), (by omega), (Below.grown (Ex.trans (Ex.refl w) hE12) hG24 (by omega) (fun k hk => by have := hrg25 k hk; omega))⟩
set_option maxRecDepth 100000 in
set_option maxHeartbeats 2000000 in
theorem c_i_copyTable {A1 : Option Addr} {c1 : Nat} {A2 : Option Addr} {c2 : Nat} {w : World} (p_t : DTable) (h1 : RdS w (Iv 0 w.heap.size) (RF e_Str) 1 A1 p_t.Cols.length c1 p_t.Cols) (h2 : RdS w (Iv 0 w.heap.size) (RF e_Idx) 3 A2 p_t.Idxs.length c2 p_t.Idxs) (o3 : ok_Table p_t) : Cal Tryz.prog 105 #[.agg #[.string (bs (p_t.Name)), .slice A1 p_t.Cols.length c1, .slice A2 p_t.Idxs.length c2]] w fun v w' => ∃ A_1 c_1 lo_1 hi_1 A_2 c_2 lo_2 hi_2, v = .agg #[.string (bs ((i_copyTable p_t).Name)), .slice A_1 (((i_copyTable p_t).Cols).length) c_1, .slice A_2 (((i_copyTable p_t).Idxs).length) c_2] ∧ OwnL w' lo_1 hi_1 9 1 (RF e_Str) A_1 (((i_copyTable p_t).Cols).length) c_1 ((i_copyTable p_t).Cols) ∧ OwnL w' lo_2 hi_2 137 3 (RF e_Idx) A_2 (((i_copyTable p_t).Idxs).length) c_2 ((i_copyTable p_t).Idxs) ∧ ok_Table (i_copyTable p_t) ∧ (w.heap.size ≤ lo_1 ∧ lo_1 ≤ hi_1 ∧ hi_1 ≤ w'.heap.size) ∧ (w.heap.size ≤ lo_2 ∧ lo_2 ≤ hi_2 ∧ hi_2 ≤ w'.heap.size) ∧ (hi_1 ≤ lo_2 ∨ hi_2 ≤ lo_1) ∧ Ex w w' := by
 have hol4 : p_t.Name.length ≤ 1073741824 := o3.1
 have hol5 := o3.2.1.1
 have hol6 := o3.2.2.1
 refine Cal.of (vs := [.agg #[.string (bs (p_t.Name)), .slice A1 p_t.Cols.length c1, .slice A2 p_t.Idxs.length c2]]) Tryz.func105 rfl Tryz.ntmps105 rfl (CW.seq (CW.region (sd rfl (yl_box (cs := [.string (bs (p_t.Name)), .slice A1 p_t.Cols.length c1, .slice A2 p_t.Idxs.length c2]) rfl rfl rfl ?_))))
 intro b7 w8 hs9 hz10 hB11 hE12
 refine sd rfl (yl_alloc Tryz.ty95 (cs := [.string (bs (([] : Str))), .slice none 0 0, .slice none 0 0]) rfl rfl ?_)
 intro b13 w14 hs15 hz16 hB17 hE18
 refine SeqR.done (tn (CW.seq ?_))
 have q19 := Box.ex hB11 hE18
 refine CW.drawsI 8 (vgetI [DetI (.pointer (some ⟨b7, 0 + 0, none⟩)), DetI (.string (bs (p_t.Name))), DetI (.pointer (some ⟨b7, 0 + 1, none⟩)), DetI (.slice A1 p_t.Cols.length c1), fun lo hi v wq => ∃ A23 c23 lo23 hi23, v = .slice A23 ((g_slices_Clone_string p_t.Cols).length) c23 ∧ OwnL wq lo23 hi23 9 1 (RF e_Str) A23 ((g_slices_Clone_string p_t.Cols).length) c23 (g_slices_Clone_string p_t.Cols) ∧ (okL okS) (g_slices_Clone_string p_t.Cols) ∧ (lo ≤ lo23 ∧ lo23 ≤ hi23 ∧ hi23 ≤ hi), DetI (.pointer (some ⟨b7, 0 + 2, none⟩)), DetI (.slice A2 p_t.Idxs.length c2), fun lo hi v wq => ∃ A28 c28 lo28 hi28, v = .slice A28 ((g_slices_Clone_Idx p_t.Idxs).length) c28 ∧ OwnL wq lo28 hi28 137 3 (RF e_Idx) A28 ((g_slices_Clone_Idx p_t.Idxs).length) c28 (g_slices_Clone_Idx p_t.Idxs) ∧ (okL ok_Idx) (g_slices_Clone_Idx p_t.Idxs) ∧ (lo ≤ lo28 ∧ lo28 ≤ hi28 ∧ hi28 ≤ hi)]) Tryz.follows rfl rfl rfl rfl rfl rfl (vgetI_stable ⟨StableI.det _, StableI.det _, StableI.det _, StableI.det _, (fun _ _ _ _ _ ⟨A23, c23, lo23, hi23, hv, h23, ho24, hr0⟩ e => ⟨A23, c23, lo23, hi23, hv, OwnL.ex good_Str h23 e, ho24, hr0⟩), StableI.det _, StableI.det _, (fun _ _ _ _ _ ⟨A28, c28, lo28, hi28, hv, h28, ho29, hr0⟩ e => ⟨A28, c28, lo28, hi28, hv, OwnL.ex good_Idx h28 e, ho29, hr0⟩), trivial⟩) ⟨?_, ?_, ?_, ?_, ?_, ?_, ?_, ?_, trivial⟩ ?_
 ·exact fun _ _ h => os rfl ((yl_fieldAddr Tryz.fd95_0 rfl (h.old 1 _ rfl rfl) kI))
 ·exact fun _ _ h => os rfl ((yl_load1 Tryz.ty9 rfl (h.dt 0 3 rfl rfl rfl) (((Box.ex q19 h.ex).cell 0).trans rfl) kI))
 ·exact fun _ _ h => os rfl ((yl_fieldAddr Tryz.fd95_1 rfl (h.old 1 _ rfl rfl) kI))
 ·exact fun _ _ h => os rfl ((yl_load1 Tryz.ty27 rfl (h.dt 2 5 rfl rfl rfl) (((Box.ex q19 h.ex).cell 1).trans rfl) kI))
 ·intro L52 w53 hi54
  have hE55 := hi54.ex
  refine OpR.op' rfl (yl_call Tryz.en138 rfl (opvs_cons (hi54.dt 3 6 rfl rfl rfl) opvs_nil) (Cal.mono (c_g_slices_Clone_string p_t.Cols (RdS.up (RdS.ex good_Str (RdS.ex good_Str (RdS.ex good_Str h1 hE12) hE18) hE55) good_Str) o3.2.1) ?_))
  rintro v61 w58 ⟨A59, c59, lo59, hi59, rfl, h59, ho60, hrn63, hE62⟩
  exact ⟨⟨A59, c59, lo59, hi59, rfl, h59, ho60, hrn63⟩, hE62⟩
 ·exact fun _ _ h => os rfl ((yl_fieldAddr Tryz.fd95_2 rfl (h.old 1 _ rfl rfl) kI))
 ·exact fun _ _ h => os rfl ((yl_load1 Tryz.ty93 rfl (h.dt 5 8 rfl rfl rfl) (((Box.ex q19 h.ex).cell 2).trans rfl) kI))
 ·intro L75 w76 hi77
  have hE78 := hi77.ex
  refine OpR.op' rfl (yl_call Tryz.en139 rfl (opvs_cons (hi77.dt 6 9 rfl rfl rfl) opvs_nil) (Cal.mono (c_g_slices_Clone_Idx p_t.Idxs (RdS.up (RdS.ex good_Idx (RdS.ex good_Idx (RdS.ex good_Idx h2 hE12) hE18) hE78) good_Idx) o3.2.2) ?_))
  rintro v84 w81 ⟨A82, c82, lo82, hi82, rfl, h82, ho83, hrn86, hE85⟩
  exact ⟨⟨A82, c82, lo82, hi82, rfl, h82, ho83, hrn86⟩, hE85⟩
 ·intro fl90 fh91 L87 w88 hp89
  have hE92 := hp89.ex
  have hE92z := Ex.size hE92
  have hx93 := hp89.old 2 _ rfl rfl
  have hr96 := hp89.rng 4 rfl
  obtain ⟨_, hx95, A23_97, c23_98, lo23_99, hi23_100, rfl, h101, h102, hrn103⟩ := hp89.new 4 7 rfl rfl
  have hr105 := hp89.rng 7 rfl
  have hsp106 := hp89.sep 4 7 rfl rfl rfl
  obtain ⟨_, hx104, A28_107, c28_108, lo28_109, hi28_110, rfl, h111, h112, hrn113⟩ := hp89.new 7 10 rfl rfl
  refine sd rfl (yl_build (cs := [.string (bs (p_t.Name)), .slice A23_97 ((g_slices_Clone_string p_t.Cols).length) c23_98, .slice A28_107 ((g_slices_Clone_Idx p_t.Idxs).length) c28_108]) rfl (opvs_cons (hp89.nt 1 4 rfl rfl rfl) (opvs_cons hx95 (opvs_cons hx104 opvs_nil))) (by kernel_rfl) (SeqR.u rfl rfl (yl_store (vs := [.string (bs (p_t.Name)), .slice A23_97 ((g_slices_Clone_string p_t.Cols).length) c23_98, .slice A28_107 ((g_slices_Clone_Idx p_t.Idxs).length) c28_108]) Tryz.ty95 rfl hx93 rfl rfl rfl rfl (Box.ex hB17 hE92) (Nat.le_of_ble_eq_true rfl) ?_)))
  intro w115 hB116 hO117
  have hB116 : Box w115 b13 95 [.string (bs (p_t.Name)), .slice A23_97 ((g_slices_Clone_string p_t.Cols).length) c23_98, .slice A28_107 ((g_slices_Clone_Idx p_t.Idxs).length) c28_108] := hB116
  have hO117z := hO117.size
  refine SeqR.done (tn (CW.sub (Sub.cons (d := 2) hx93 (Sub.nil _)) (CW.ret (rr rfl (.cons ⟨_, rfl, run_loadN Tryz.ty95 (cs := [.string (bs (p_t.Name)), .slice A23_97 ((g_slices_Clone_string p_t.Cols).length) c23_98, .slice A28_107 ((g_slices_Clone_Idx p_t.Idxs).length) c28_108]) rfl (hB116.cells (n := 3) rfl)⟩ .nil) ?_))))
  have hM118 : (i_copyTable p_t) = ((⟨p_t.Name, (g_slices_Clone_string p_t.Cols), (g_slices_Clone_Idx p_t.Idxs)⟩ : DTable)) := by simp only [i_copyTable, cond_true, cond_false, loopE_done, loopE_ret]
  rw [hM118]
  exact ⟨A23_97, c23_98, lo23_99, hi23_100, A28_107, c28_108, lo28_109, hi28_110, rfl, (OwnL.only good_Str h101 hO117 (by omega)), (OwnL.only good_Idx h111 hO117 (by omega)), ⟨o3.1, h102, h112⟩, (by omega), (by omega), (by omega), (Below.only (Ex.trans (Ex.trans (Ex.trans (Ex.refl w) hE12) hE18) hE92) hO117 (by omega))⟩
set_option maxRecDepth 100000 in
set_option maxHeartbeats 2000000 in
theorem c_i_Table_withStage {A1 : Option Addr} {c1 : Nat} {A2 : Option Addr} {c2 : Nat} {w : World} (p_t : DTable) (p_name : Str) (p_stage : Int) (h1 : RdS w (Iv 0 w.heap.size) (RF e_Str) 1 A1 p_t.Cols.length c1 p_t.Cols) (h2 : RdS w (Iv 0 w.heap.size) (RF e_Idx) 3 A2 p_t.Idxs.length c2 p_t.Idxs) (o3 : ok_Table p_t) (o4 : okS p_name) (pre0 : (0 ≤ i_Table_findIdx p_t p_name ∧ i_Table_findIdx p_t p_name < (p_t.Idxs.length : Int))) : Cal Tryz.prog 106 #[.agg #[.string (bs (p_t.Name)), .slice A1 p_t.Cols.length c1, .slice A2 p_t.Idxs.length c2], .string (bs (p_name)), .int .i64 (p_stage)] w fun v w' => ∃ A_1 c_1 lo_1 hi_1 A_2 c_2 lo_2 hi_2, v = .agg #[.string (bs ((i_Table_withStage p_t p_name p_stage).Name)), .slice A_1 (((i_Table_withStage p_t p_name p_stage).Cols).length) c_1, .slice A_2 (((i_Table_withStage p_t p_name p_stage).Idxs).length) c_2] ∧ OwnL w' lo_1 hi_1 9 1 (RF e_Str) A_1 (((i_Table_withStage p_t p_name p_stage).Cols).length) c_1 ((i_Table_withStage p_t p_name p_stage).Cols) ∧ OwnL w' lo_2 hi_2 137 3 (RF e_Idx) A_2 (((i_Table_withStage p_t p_name p_stage).Idxs).length) c_2 ((i_Table_withStage p_t p_name p_stage).Idxs) ∧ ok_Table (i_Table_withStage p_t p_name p_stage) ∧ (w.heap.size ≤ lo_1 ∧ lo_1 ≤ hi_1 ∧ hi_1 ≤ w'.heap.size) ∧ (w.heap.size ≤ lo_2 ∧ lo_2 ≤ hi_2 ∧ hi_2 ≤ w'.heap.size) ∧ (hi_1 ≤ lo_2 ∨ hi_2 ≤ lo_1) ∧ Ex w w' := by
 have hol5 : p_t.Name.length ≤ 1073741824 := o3.1
 have hol6 := o3.2.1.1
 have hol7 := o3.2.2.1
 have hol8 : p_name.length ≤ 1073741824 := o4
 refine Cal.of (vs := [.agg #[.string (bs (p_t.Name)), .slice A1 p_t.Cols.length c1, .slice A2 p_t.Idxs.length c2], .string (bs (p_name)), .int .i64 (p_stage)]) Tryz.func106 rfl Tryz.ntmps106 rfl (CW.seq (CW.region (sd rfl (yl_box (cs := [.string (bs (p_t.Name)), .slice A1 p_t.Cols.length c1, .slice A2 p_t.Idxs.length c2]) rfl rfl rfl ?_))))
 intro b9 w10 hs11 hz12 hB13 hE14
 refine sd rfl (yl_alloc Tryz.ty95 (cs := [.string (bs (([] : Str))), .slice none 0 0, .slice none 0 0]) rfl rfl ?_)
 intro b15 w16 hs17 hz18 hB19 hE20
 refine SeqR.done (tn (CW.seq (CW.region ?_)))
 have q21 := Box.ex hB13 hE20
 refine sd rfl (yl_loadN (cs := [.string (bs (p_t.Name)), .slice A1 p_t.Cols.length c1, .slice A2 p_t.Idxs.length c2]) Tryz.ty95 rfl rfl (q21.cells (n := 3) rfl) rfl ?_)
 have q23 := RdS.ex good_Str (RdS.ex good_Str h1 hE14) hE20
 have q25 := RdS.ex good_Idx (RdS.ex good_Idx h2 hE14) hE20
 refine sd rfl (yl_call Tryz.en105 rfl (opvs_cons rfl opvs_nil) (Cal.mono (c_i_copyTable p_t (RdS.up q23 good_Str) (RdS.up q25 good_Idx) o3) ?_))
 rintro v30 w26 ⟨A27, c27, lo27, hi27, A28, c28, lo28, hi28, rfl, h27, h28, ho29, hrn32, hrn33, hrn34, hE31⟩
 have hE31z := Ex.size hE31
 have hrf35 := rf_copyTable p_t
 refine sd rfl (yl_alloc Tryz.ty95 (cs := [.string (bs (([] : Str))), .slice none 0 0, .slice none 0 0]) rfl rfl ?_)
 intro b36 w37 hs38 hz39 hB40 hE41
 refine SeqR.u rfl rfl (yl_store (vs := [.string (bs ((i_copyTable p_t).Name)), .slice A27 (((i_copyTable p_t).Cols).length) c27, .slice A28 (((i_copyTable p_t).Idxs).length) c28]) Tryz.ty95 rfl rfl rfl rfl rfl rfl hB40 (Nat.le_of_ble_eq_true rfl) ?_)
 intro w42 hB43 hO44
 have hB43 : Box w42 b36 95 [.string (bs ((i_copyTable p_t).Name)), .slice A27 (((i_copyTable p_t).Cols).length) c27, .slice A28 (((i_copyTable p_t).Idxs).length) c28] := hB43
 have hO44z := hO44.size
 refine SeqR.done (tn (CW.seq ?_))
 have hrf55 := rf_i_findIdx p_t p_name
 refine CW.drawsI 6 (vgetI [DetI (.pointer (some ⟨b36, 0 + 2, none⟩)), DetI (.slice A28 (((i_copyTable p_t).Idxs).length) c28), DetI (.agg #[.string (bs (p_t.Name)), .slice A1 p_t.Cols.length c1, .slice A2 p_t.Idxs.length c2]), DetI (.string (bs (p_name))), DetI (.int .i64 ((i_Table_findIdx p_t p_name))), DetI (.int .i64 (p_stage))]) Tryz.follows rfl rfl rfl rfl rfl rfl (vgetI_stable ⟨StableI.det _, StableI.det _, StableI.det _, StableI.det _, StableI.det _, StableI.det _, trivial⟩) ⟨?_, ?_, ?_, ?_, ?_, ?_, trivial⟩ ?_
 ·exact fun _ _ h => os rfl ((yl_fieldAddr Tryz.fd95_2 rfl (h.old 7 _ rfl rfl) kI))
 ·exact fun _ _ h => os rfl ((yl_load1 Tryz.ty93 rfl (h.dt 0 10 rfl rfl rfl) (((Box.ex hB43 h.ex).cell 2).trans rfl) kI))
 ·intro L67 w68 hi69
  have hE70 := hi69.ex
  have hE70z := Ex.size hE70
  exact os rfl ((yl_loadN (cs := [.string (bs (p_t.Name)), .slice A1 p_t.Cols.length c1, .slice A2 p_t.Idxs.length c2]) Tryz.ty95 rfl (hi69.old 3 _ rfl rfl) ((Box.ex (Box.only (Box.ex (Box.ex q21 hE31) hE41) hO44 (by omega)) hE70).cells (n := 3) rfl) rfl kI))
 ·exact fun _ _ h => os rfl ((yl_move rfl (h.old 1 _ rfl rfl) kI))
 ·intro L78 w79 hi80
  have hE81 := hi80.ex
  have hE81z := Ex.size hE81
  refine OpR.op' rfl (yl_call Tryz.en102 rfl (opvs_cons (hi80.dt 2 12 rfl rfl rfl) (opvs_cons (hi80.dt 3 13 rfl rfl rfl) opvs_nil)) (Cal.mono (c_i_Table_findIdx p_t p_name (RdS.up (RdS.ex good_Str (RdS.only good_Str (RdS.ex good_Str (RdS.ex good_Str q23 hE31) hE41) hO44 (by simp only [Iv]; omega)) hE81) good_Str) (RdS.up (RdS.ex good_Idx (RdS.only good_Idx (RdS.ex good_Idx (RdS.ex good_Idx q25 hE31) hE41) hO44 (by simp only [Iv]; omega)) hE81) good_Idx) o3 o4) ?_))
  rintro v87 w86 ⟨rfl, hE88⟩
  exact ⟨rfl, hE88⟩
 ·exact fun _ _ h => os rfl ((yl_move rfl (h.old 2 _ rfl rfl) kI))
 ·intro fl97 fh98 L94 w95 hp96
  have hE99 := hp96.ex
  have hE99z := Ex.size hE99
  have q108 := OwnL.ex good_Idx (OwnL.only good_Idx (OwnL.ex good_Idx h28 hE41) hO44 (by omega)) hE99
  obtain ⟨eb109, eo109, ec109, eA109, eS109, ebl109, el109, eR109, eC109⟩ := RdS.atD (OwnL.rd good_Idx q108) d_Idx (i := ((i_Table_findIdx p_t p_name)).toNat) (by first | omega | assumption | (simp only [IntKind.wrap_i64] at *; omega))
  obtain rfl := eR109
  have eC109 : Cells w95 eb109 (eo109 + (((i_Table_findIdx p_t p_name)).toNat) * 3) [.string (bs ((((i_copyTable p_t).Idxs).getD (((i_Table_findIdx p_t p_name)).toNat) d_Idx).Name)), .int .i64 ((((i_copyTable p_t).Idxs).getD (((i_Table_findIdx p_t p_name)).toNat) d_Idx).Col), .int .i64 ((((i_copyTable p_t).Idxs).getD (((i_Table_findIdx p_t p_name)).toNat) d_Idx).Stage)] := eC109
  refine sd rfl (yl_indexAddr Tryz.un93 Tryz.ty137 rfl (hp96.nt 1 11 rfl rfl rfl) (hp96.nt 4 14 rfl rfl rfl) eA109 (by first | omega | assumption | (simp only [IntKind.wrap_i64] at *; omega)) (by first | omega | assumption | (simp only [IntKind.wrap_i64] at *; omega)) (sd rfl (yl_fieldAddr Tryz.fd137_2 rfl rfl ?_)))
  have hrg110 := OwnL.rng q108 (i := ((i_Table_findIdx p_t p_name)).toNat) (by first | omega | assumption | (simp only [IntKind.wrap_i64] at *; omega)) eb109 (by rw [eA109]; rfl)
  refine SeqR.u rfl rfl (yl_storeF (off := eo109) (i := ((i_Table_findIdx p_t p_name)).toNat) (d := 2) (dx := d_Idx) (x' := (⟨(((i_copyTable p_t).Idxs).getD (((i_Table_findIdx p_t p_name)).toNat) d_Idx).Name, (((i_copyTable p_t).Idxs).getD (((i_Table_findIdx p_t p_name)).toNat) d_Idx).Col, p_stage⟩ : DIdx)) (vs := [.int .i64 (p_stage)]) Tryz.ty3 rfl q108 eA109 rfl (hp96.nt 5 15 rfl rfl rfl) rfl rfl rfl (by first | omega | assumption | (simp only [IntKind.wrap_i64] at *; omega)) (Nat.le_of_ble_eq_true rfl) rfl rfl ?_)
  intro w111 hB112 hO113
  have hO113z := hO113.size
  refine SeqR.done (tn (CW.sub (Sub.cons (d := 6) (hp96.old 6 _ rfl rfl) (Sub.cons (d := 7) (hp96.old 7 _ rfl rfl) (Sub.nil _))) (CW.seq (CW.region (sd rfl (yl_loadN (cs := [.string (bs ((i_copyTable p_t).Name)), .slice A27 (((i_copyTable p_t).Cols).length) c27, .slice A28 (((i_copyTable p_t).Idxs).length) c28]) Tryz.ty95 rfl rfl ((Box.only (Box.ex hB43 hE99) hO113 (by omega)).cells (n := 3) rfl) rfl (SeqR.u rfl rfl (yl_store (vs := [.string (bs ((i_copyTable p_t).Name)), .slice A27 (((i_copyTable p_t).Cols).length) c27, .slice A28 (((i_copyTable p_t).Idxs).length) c28]) Tryz.ty95 rfl rfl rfl rfl rfl rfl (Box.only (Box.ex (Box.only (Box.ex (Box.ex hB19 hE31) hE41) hO44 (by omega)) hE99) hO113 (by omega)) (Nat.le_of_ble_eq_true rfl) ?_))))))))
  intro w121 hB122 hO123
  have hB122 : Box w121 b15 95 [.string (bs ((i_copyTable p_t).Name)), .slice A27 (((i_copyTable p_t).Cols).length) c27, .slice A28 (((i_copyTable p_t).Idxs).length) c28] := hB122
  have hO123z := hO123.size
  refine SeqR.done (tn (CW.ret (rr rfl (.cons ⟨_, rfl, run_loadN Tryz.ty95 (cs := [.string (bs ((i_copyTable p_t).Name)), .slice A27 (((i_copyTable p_t).Cols).length) c27, .slice A28 (((i_copyTable p_t).Idxs).length) c28]) rfl (hB122.cells (n := 3) rfl)⟩ .nil) ?_)))
  have hM124 : (i_Table_withStage p_t p_name p_stage) = ((⟨(i_copyTable p_t).Name, (i_copyTable p_t).Cols, (((i_copyTable p_t).Idxs).set (((i_Table_findIdx p_t p_name)).toNat) (⟨(((i_copyTable p_t).Idxs).getD (((i_Table_findIdx p_t p_name)).toNat) d_Idx).Name, (((i_copyTable p_t).Idxs).getD (((i_Table_findIdx p_t p_name)).toNat) d_Idx).Col, p_stage⟩ : DIdx))⟩ : DTable)) := by simp only [i_Table_withStage, cond_true, cond_false, loopE_done, loopE_ret]
  have q130 := OwnL.only good_Idx hB112 hO123 (by omega)
  have hfx131 := (q130).1
  have hol132 : ((i_copyTable p_t).Idxs).length ≤ 1073741824 := ho29.2.2.1
  rw [hM124]
  exact ⟨A27, c27, lo27, hi27, A28, c28, lo28, hi28, (by first | rfl | (simp only [List.length_replicate, List.length_set]; done) | (simp only [List.length_replicate, List.length_set]; rfl) | rw [hfx131]), (OwnL.only good_Str (OwnL.only good_Str (OwnL.ex good_Str (OwnL.only good_Str (OwnL.ex good_Str h27 hE41) hO44 (by omega)) hE99) hO113 (by omega)) hO123 (by omega)), (OwnL.fix q130), ⟨ho29.1, ho29.2.1, (okL.mk (xs := (((i_copyTable p_t).Idxs).set (((i_Table_findIdx p_t p_name)).toNat) (⟨(((i_copyTable p_t).Idxs).getD (((i_Table_findIdx p_t p_name)).toNat) d_Idx).Name, (((i_copyTable p_t).Idxs).getD (((i_Table_findIdx p_t p_name)).toNat) d_Idx).Col, p_stage⟩ : DIdx))) (by first | omega | (simp only [List.length_append, List.length_cons, List.length_nil, List.length_take, List.length_drop, List.length_replicate, List.length_set, toS_length]; omega)) (okE.set (ho29.2.2).2 (okL.getD ho29.2.2 ok_d_Idx _)))⟩, (by omega), (by omega), (by omega), (Below.only (Below.only (Ex.trans (Below.only (Ex.trans (Ex.trans (Ex.trans (Ex.trans (Ex.refl w) hE14) hE20) hE31) hE41) hO44 (by omega)) hE99) hO113 (by omega)) hO123 (by omega))⟩
set_option maxRecDepth 100000 in
set_option maxHeartbeats 2000000 in
theorem c_i_Table_wayTo {A1 : Option Addr} {c1 : Nat} {A2 : Option Addr} {c2 : Nat} {w : World} (p_t : DTable) (p_name : Str) (p_stage : Int) (h1 : RdS w (Iv 0 w.heap.size) (RF e_Str) 1 A1 p_t.Cols.length c1 p_t.Cols) (h2 : RdS w (Iv 0 w.heap.size) (RF e_Idx) 3 A2 p_t.Idxs.length c2 p_t.Idxs) (o3 : ok_Table p_t) (o4 : okS p_name) (pre0 : (0 ≤ i_Table_findIdx p_t p_name ∧ i_Table_findIdx p_t p_name < (p_t.Idxs.length : Int))) (pre1 : (0 ≤ (i_Table_idx p_t p_name).Stage ∧ (i_Table_idx p_t p_name).Stage ≤ 3)) (pre2 : (0 ≤ p_stage ∧ p_stage ≤ 3)) : Cal Tryz.prog 71 #[.agg #[.string (bs (p_t.Name)), .slice A1 p_t.Cols.length c1, .slice A2 p_t.Idxs.length c2], .string (bs (p_name)), .int .i64 (p_stage)] w fun v w' => ∃ A_1 c_1 lo_1 hi_1, v = .slice A_1 ((i_Table_wayTo p_t p_name p_stage).length) c_1 ∧ OwnL w' lo_1 hi_1 95 3 R_Table A_1 ((i_Table_wayTo p_t p_name p_stage).length) c_1 (i_Table_wayTo p_t p_name p_stage) ∧ (okL ok_Table) (i_Table_wayTo p_t p_name p_stage) ∧ (w.heap.size ≤ lo_1 ∧ lo_1 ≤ hi_1 ∧ hi_1 ≤ w'.heap.size) ∧ Ex w w' := by
 have hol5 : p_t.Name.length ≤ 1073741824 := o3.1
 have hol6 := o3.2.1.1
 have hol7 := o3.2.2.1
 have hol8 : p_name.length ≤ 1073741824 := o4
 refine Cal.of (vs := [.agg #[.string (bs (p_t.Name)), .slice A1 p_t.Cols.length c1, .slice A2 p_t.Idxs.length c2], .string (bs (p_name)), .int .i64 (p_stage)]) Tryz.func71 rfl Tryz.ntmps71 rfl (CW.seq (CW.region (sd rfl (yl_box (cs := [.string (bs (p_t.Name)), .slice A1 p_t.Cols.length c1, .slice A2 p_t.Idxs.length c2]) rfl rfl rfl ?_))))
 intro b9 w10 hs11 hz12 hB13 hE14
 refine sd rfl (yl_assign rfl rfl (SeqR.done (tn (CW.seq (CW.region (sd rfl (yl_loadN (cs := [.string (bs (p_t.Name)), .slice A1 p_t.Cols.length c1, .slice A2 p_t.Idxs.length c2]) Tryz.ty95 rfl rfl (hB13.cells (n := 3) rfl) rfl (sd rfl (yl_move rfl rfl ?_)))))))))
 have q15 := RdS.ex good_Str h1 hE14
 have q16 := RdS.ex good_Idx h2 hE14
 refine sd rfl (yl_call Tryz.en104 rfl (opvs_cons rfl (opvs_cons rfl opvs_nil)) (Cal.mono (c_i_Table_idx p_t p_name (RdS.up q15 good_Str) (RdS.up q16 good_Idx) o3 o4 (by first | omega | assumption | (simp only [IntKind.wrap_i64] at *; omega))) ?_))
 rintro v19 w17 ⟨rfl, ho18, hE20⟩
 have hE20z := Ex.size hE20
 refine sd rfl (yl_field1 Tryz.fd137_2 rfl rfl rfl (sd rfl (yl_assign rfl rfl (SeqR.done (tn (CW.seq (CW.region ?_)))))))
 have q21 := Box.ex hB13 hE20
 refine sd rfl (yl_loadN (cs := [.string (bs (p_t.Name)), .slice A1 p_t.Cols.length c1, .slice A2 p_t.Idxs.length c2]) Tryz.ty95 rfl rfl (q21.cells (n := 3) rfl) rfl ?_)
 have q22 := RdS.ex good_Str q15 hE20
 have q23 := RdS.ex good_Idx q16 hE20
 refine sd rfl (yl_call Tryz.en105 rfl (opvs_cons rfl opvs_nil) (Cal.mono (c_i_copyTable p_t (RdS.up q22 good_Str) (RdS.up q23 good_Idx) o3) ?_))
 rintro v28 w24 ⟨A25, c25, lo25, hi25, A26, c26, lo26, hi26, rfl, h25, h26, ho27, hrn30, hrn31, hrn32, hE29⟩
 have hE29z := Ex.size hE29
 have hrf33 := rf_copyTable p_t
 refine sd rfl (yl_buildSlice (cs := [.string (bs ((i_copyTable p_t).Name)), .slice A25 (((i_copyTable p_t).Cols).length) c25, .slice A26 (((i_copyTable p_t).Idxs).length) c26]) Tryz.un37 Tryz.ty95 (by decide) rfl (opvs_cons rfl opvs_nil) (by kernel_rfl) ?_)
 intro b34 w35 hs36 hz37 hB38 hE39
 have hO40 : OwnL w35 w17.heap.size (b34 + 1) 95 3 R_Table (some ⟨b34, 0, none⟩) 1 1 ([(i_copyTable p_t)] : List DTable) := OwnL.of_box (S := Iv w17.heap.size b34) hB38 (by omega) (Nat.lt_succ_self _) (EncL.cons (c := [.string (bs ((i_copyTable p_t).Name)), .slice A25 (((i_copyTable p_t).Cols).length) c25, .slice A26 (((i_copyTable p_t).Idxs).length) c26]) rfl ⟨A25, c25, A26, c26, rfl, (RdS.ex good_Str (RdS.wide good_Str (OwnL.rd good_Str h25) (fun b hh hl => ⟨by first | exact Nat.zero_le _ | (have := hh.1; omega), by omega⟩)) hE39), (RdS.ex good_Idx (RdS.wide good_Idx (OwnL.rd good_Idx h26) (fun b hh hl => ⟨by first | exact Nat.zero_le _ | (have := hh.1; omega), by omega⟩)) hE39)⟩ EncL.nil) (Nat.le_of_ble_eq_true rfl) (fun h => Nat.lt_irrefl _ h.2) (fun _ h => ⟨h.1, Nat.lt_succ_of_lt h.2⟩)
 refine sd rfl (yl_assign rfl rfl (SeqR.done (tn (CW.seq (CW.block (CW.loop (fun m107 L108 w109 => ∃ (x102 : Int) (x103 : List DTable) (A104 : Option Addr) (c105 : Nat) (u106 : Nat), ((p_stage - x102).toNat + (x102 - p_stage).toNat) < m107 ∧ w35.heap.size ≤ w109.heap.size ∧ lkp L108 1 = some (.string (bs (p_name))) ∧ lkp L108 2 = some (.int .i64 (p_stage)) ∧ lkp L108 3 = some (.pointer (some ⟨b9, 0, none⟩)) ∧ lkp L108 7 = some (.int .i64 (x102)) ∧ lkp L108 8 = some (.slice A104 x103.length c105) ∧ Box w109 b9 95 [.string (bs (p_t.Name)), .slice A1 p_t.Cols.length c1, .slice A2 p_t.Idxs.length c2] ∧ RdS w109 (Iv 0 w.heap.size) (RF e_Str) 1 A1 p_t.Cols.length c1 p_t.Cols ∧ RdS w109 (Iv 0 w.heap.size) (RF e_Idx) 3 A2 p_t.Idxs.length c2 p_t.Idxs ∧ OwnL w109 w17.heap.size u106 95 3 R_Table A104 x103.length c105 x103 ∧ Ex w w109 ∧ (w17.heap.size ≤ u106 ∧ u106 ≤ w109.heap.size) ∧ x103.length + 1 * ((p_stage - x102).toNat + (x102 - p_stage).toNat) ≤ 1 + 1 * ((p_stage - (i_Table_idx p_t p_name).Stage).toNat + ((i_Table_idx p_t p_name).Stage - p_stage).toNat) ∧ (∀ y ∈ x103, ok_Table y) ∧ 0 ≤ x102 ∧ x102 ≤ 3 ∧ loopW (B_i_Table_wayTo_0 p_t p_name p_stage) m107 (x102, x103) = loopW (B_i_Table_wayTo_0 p_t p_name p_stage) (((p_stage - (i_Table_idx p_t p_name).Stage).toNat + ((i_Table_idx p_t p_name).Stage - p_stage).toNat) + 1) ((i_Table_idx p_t p_name).Stage, ([(i_copyTable p_t)] : List DTable))) (((p_stage - (i_Table_idx p_t p_name).Stage).toNat + ((i_Table_idx p_t p_name).Stage - p_stage).toNat) + 1) ?_ ?_))))))
 ·exact ⟨(i_Table_idx p_t p_name).Stage, ([(i_copyTable p_t)] : List DTable), (some ⟨b34, 0, none⟩), 1, (b34 + 1), Nat.lt_succ_self _, Nat.le_refl _, rfl, rfl, rfl, rfl, rfl, (Box.ex (Box.ex q21 hE29) hE39), (RdS.ex good_Str (RdS.ex good_Str q22 hE29) hE39), (RdS.ex good_Idx (RdS.ex good_Idx q23 hE29) hE39), hO40, (Ex.trans (Ex.trans (Ex.trans (Ex.trans (Ex.refl w) hE14) hE20) hE29) hE39), (by omega), (by first | (simp; done) | (first | omega | (simp only [List.length_append, List.length_cons, List.length_nil, List.length_set, toS_length]; omega))), ((okL.mk (Nat.le_of_ble_eq_true rfl) (okE.cons ho27 okE.nil))).2, (by first | omega | assumption | (simp only [IntKind.wrap_i64] at *; omega)), (by first | omega | assumption | (simp only [IntKind.wrap_i64] at *; omega)), rfl⟩
 ·rintro m120 L121 w122 ⟨x102, x103, A104, c105, u106, hk123, hsz125, hl126, hl127, hl128, hl129, hl130, hf131, hf132, hf133, hf134, hf135, hu136, hln137, hok138, hv139, hv140, hI124⟩
  refine CW.sub (Sub.cons hl126 (Sub.cons hl127 (Sub.cons hl128 (Sub.cons hl129 (Sub.cons hl130 (Sub.nil _)))))) ?_
  have hf131z := Box.lt hf131
  have hf135z := Ex.size hf135
  refine CW.seq (CW.seq (CW.region (sd rfl (yl_move rfl rfl (sd rfl (yl_move rfl rfl (sd rfl (yl_neq rfl rfl rfl (SeqR.done (tn (bcase (decide (x102 = p_stage)) (fun hb141 => ?_) (fun hb141 => ?_))))))))))))
  ·have hb141p := dec_t hb141
   refine CW.cond_f rfl (not_t hb141) (CW.exit (tx (tx ?_)))
   have hB143 : B_i_Table_wayTo_0 p_t p_name p_stage (x102, x103) = .brk (x102, x103) := by simp only [B_i_Table_wayTo_0, hb141, cond_true, cond_false, loopE_done, loopE_ret]
   have hL142 : loopW (B_i_Table_wayTo_0 p_t p_name p_stage) (((p_stage - (i_Table_idx p_t p_name).Stage).toNat + ((i_Table_idx p_t p_name).Stage - p_stage).toNat) + 1) ((i_Table_idx p_t p_name).Stage, ([(i_copyTable p_t)] : List DTable)) = .done (x102, x103) := hI124.symm.trans (loopW.brk hk123 hB143)
   refine bx (tn (CW.seq (CW.region (sd rfl (yl_move rfl rfl (sd rfl (yl_assign rfl rfl (SeqR.done (tn (CW.ret ?_))))))))))
   refine rr rfl (.cons rfl .nil) ?_
   have hM144 : (i_Table_wayTo p_t p_name p_stage) = (x103) := by simp only [i_Table_wayTo, hb141, hL142, cond_true, cond_false, loopE_done, loopE_ret]
   rw [hM144]
   exact ⟨A104, c105, w17.heap.size, u106, rfl, hf134, (okL.mk (xs := x103) (by first | omega | (simp only [List.length_append, List.length_cons, List.length_nil, List.length_take, List.length_drop, List.length_replicate, List.length_set, toS_length]; omega)) hok138), (by omega), hf135⟩
  ·have hb141p := dec_f hb141
   refine CW.cond_t rfl (not_f hb141) (CW.skip (tn (CW.block (CW.seq (CW.seq (CW.region (sd rfl (yl_move rfl rfl (sd rfl (yl_move rfl rfl ?_))))))))))
   refine sd rfl (yl_lss rfl rfl rfl (SeqR.done (tn (bcase (decide (x102 < p_stage)) (fun hb145 => ?_) (fun hb145 => ?_)))))
   ·have hb145p := dec_t hb145
    refine CW.cond_t rfl hb145 (CW.region (sd rfl (yl_move rfl rfl (sd rfl (yl_add rfl rfl rfl (sd rfl (yl_assign rfl rfl (SeqR.done (tn (CW.region (sd rfl (yl_move rfl rfl ?_))))))))))))
    refine sd rfl (yl_loadN (cs := [.string (bs (p_t.Name)), .slice A1 p_t.Cols.length c1, .slice A2 p_t.Idxs.length c2]) Tryz.ty95 rfl rfl (hf131.cells (n := 3) rfl) rfl (sd rfl (yl_move rfl rfl (sd rfl (yl_move rfl rfl (sd rfl (yl_call Tryz.en106 rfl (opvs_cons rfl (opvs_cons rfl (opvs_cons rfl opvs_nil))) (Cal.mono (c_i_Table_withStage p_t p_name (IntKind.wrap .i64 (x102 + 1)) (RdS.up hf132 good_Str) (RdS.up hf133 good_Idx) o3 o4 (by first | omega | assumption | (simp only [IntKind.wrap_i64] at *; omega))) ?_))))))))
    rintro v150 w146 ⟨A147, c147, lo147, hi147, A148, c148, lo148, hi148, rfl, h147, h148, ho149, hrn152, hrn153, hrn154, hE151⟩
    have hE151z := Ex.size hE151
    refine sd rfl (yl_buildSlice (cs := [.string (bs ((i_Table_withStage p_t p_name (IntKind.wrap .i64 (x102 + 1))).Name)), .slice A147 (((i_Table_withStage p_t p_name (IntKind.wrap .i64 (x102 + 1))).Cols).length) c147, .slice A148 (((i_Table_withStage p_t p_name (IntKind.wrap .i64 (x102 + 1))).Idxs).length) c148]) Tryz.un37 Tryz.ty95 (by decide) rfl (opvs_cons rfl opvs_nil) (by kernel_rfl) ?_)
    intro b155 w156 hs157 hz158 hB159 hE160
    have hO161 : OwnL w156 w122.heap.size (b155 + 1) 95 3 R_Table (some ⟨b155, 0, none⟩) 1 1 ([(i_Table_withStage p_t p_name (IntKind.wrap .i64 (x102 + 1)))] : List DTable) := OwnL.of_box (S := Iv w122.heap.size b155) hB159 (by omega) (Nat.lt_succ_self _) (EncL.cons (c := [.string (bs ((i_Table_withStage p_t p_name (IntKind.wrap .i64 (x102 + 1))).Name)), .slice A147 (((i_Table_withStage p_t p_name (IntKind.wrap .i64 (x102 + 1))).Cols).length) c147, .slice A148 (((i_Table_withStage p_t p_name (IntKind.wrap .i64 (x102 + 1))).Idxs).length) c148]) rfl ⟨A147, c147, A148, c148, rfl, (RdS.ex good_Str (RdS.wide good_Str (OwnL.rd good_Str h147) (fun b hh hl => ⟨by first | exact Nat.zero_le _ | (have := hh.1; omega), by omega⟩)) hE160), (RdS.ex good_Idx (RdS.wide good_Idx (OwnL.rd good_Idx h148) (fun b hh hl => ⟨by first | exact Nat.zero_le _ | (have := hh.1; omega), by omega⟩)) hE160)⟩ EncL.nil) (Nat.le_of_ble_eq_true rfl) (fun h => Nat.lt_irrefl _ h.2) (fun _ h => ⟨h.1, Nat.lt_succ_of_lt h.2⟩)
    refine sd rfl (yl_appendL (S := (Iv u106 w156.heap.size)) (lo := w17.heap.size) (hi := u106) (xs := x103) (ys := ([(i_Table_withStage p_t p_name (IntKind.wrap .i64 (x102 + 1)))] : List DTable)) good_Table Tryz.un37 Tryz.ty95 rfl (Nat.le_of_ble_eq_true rfl) rfl rfl rfl (OwnL.ex good_Table (OwnL.ex good_Table hf134 hE151) hE160) (EncL.cons (c := [.string (bs ((i_Table_withStage p_t p_name (IntKind.wrap .i64 (x102 + 1))).Name)), .slice A147 (((i_Table_withStage p_t p_name (IntKind.wrap .i64 (x102 + 1))).Cols).length) c147, .slice A148 (((i_Table_withStage p_t p_name (IntKind.wrap .i64 (x102 + 1))).Idxs).length) c148]) rfl ⟨A147, c147, A148, c148, rfl, (RdS.wide good_Str (OwnL.rd good_Str (OwnL.ex good_Str h147 hE160)) (fun b hh hl => ⟨by have := hh.1; omega, hl⟩)), (RdS.wide good_Idx (OwnL.rd good_Idx (OwnL.ex good_Idx h148 hE160)) (fun b hh hl => ⟨by have := hh.1; omega, hl⟩))⟩ EncL.nil) (Or.inr ⟨_, _, rfl, rfl, hB159.cells (o := 0) (n := 3) rfl⟩) rfl (by first | omega | (simp only [List.length_append, List.length_cons, List.length_nil, List.length_take, List.length_drop, List.length_replicate, List.length_set, toS_length]; omega)) (by first | omega | (simp only [List.length_append, List.length_cons, List.length_nil, List.length_take, List.length_drop, List.length_replicate, List.length_set, toS_length]; omega)) (by omega) (by omega) (fun _ h _ => h.1) (by omega) ?_)
    intro A170 c171 w172 row173 hO174 hG175 hrg176
    have hG175z := hG175.size
    refine sd rfl (yl_assign rfl rfl (SeqR.done (bn (tn ?_))))
    have hB177 : B_i_Table_wayTo_0 p_t p_name p_stage (x102, x103) = .cont (IntKind.wrap .i64 (x102 + 1), (x103 ++ ([(i_Table_withStage p_t p_name (IntKind.wrap .i64 (x102 + 1)))] : List DTable))) := by simp only [B_i_Table_wayTo_0, hb141, hb145, cond_true, cond_false, loopE_done, loopE_ret]
    have hmu190 : ((p_stage - IntKind.wrap .i64 (x102 + 1)).toNat + (IntKind.wrap .i64 (x102 + 1) - p_stage).toNat) < ((p_stage - x102).toNat + (x102 - p_stage).toNat) := by first | omega | assumption | (simp only [IntKind.wrap_i64] at *; omega)
    exact ⟨m120 - 1, by omega, IntKind.wrap .i64 (x102 + 1), (x103 ++ ([(i_Table_withStage p_t p_name (IntKind.wrap .i64 (x102 + 1)))] : List DTable)), A170, c171, w172.heap.size, (by omega), (by omega), rfl, rfl, rfl, rfl, rfl, (Box.grown (Box.ex (Box.ex hf131 hE151) hE160) hG175 (fun k hk => by have := hrg176 k hk; omega)), (RdS.grown good_Str (RdS.ex good_Str (RdS.ex good_Str hf132 hE151) hE160) hG175 (fun k hk => by have := hrg176 k hk; simp only [Iv]; omega)), (RdS.grown good_Idx (RdS.ex good_Idx (RdS.ex good_Idx hf133 hE151) hE160) hG175 (fun k hk => by have := hrg176 k hk; simp only [Iv]; omega)), hO174, (Below.grown (Ex.trans (Ex.trans hf135 hE151) hE160) hG175 (by omega) (fun k hk => by have := hrg176 k hk; omega)), (by omega), (by first | omega | (simp only [List.length_append, List.length_cons, List.length_nil, List.length_set, toS_length]; omega)), (okE.append hok138 ((okL.mk (Nat.le_of_ble_eq_true rfl) (okE.cons ho149 okE.nil))).2), (by first | omega | assumption | (simp only [IntKind.wrap_i64] at *; omega)), (by first | omega | assumption | (simp only [IntKind.wrap_i64] at *; omega)), (loopW.cont hk123 hB177).symm.trans hI124⟩
   ·have hb145p := dec_f hb145
    refine CW.cond_f rfl hb145 (CW.region (sd rfl (yl_move rfl rfl (sd rfl (yl_sub rfl rfl rfl (sd rfl (yl_assign rfl rfl (SeqR.done (tn (CW.region (sd rfl (yl_move rfl rfl ?_))))))))))))
    refine sd rfl (yl_loadN (cs := [.string (bs (p_t.Name)), .slice A1 p_t.Cols.length c1, .slice A2 p_t.Idxs.length c2]) Tryz.ty95 rfl rfl (hf131.cells (n := 3) rfl) rfl (sd rfl (yl_move rfl rfl (sd rfl (yl_move rfl rfl (sd rfl (yl_call Tryz.en106 rfl (opvs_cons rfl (opvs_cons rfl (opvs_cons rfl opvs_nil))) (Cal.mono (c_i_Table_withStage p_t p_name (IntKind.wrap .i64 (x102 - 1)) (RdS.up hf132 good_Str) (RdS.up hf133 good_Idx) o3 o4 (by first | omega | assumption | (simp only [IntKind.wrap_i64] at *; omega))) ?_))))))))
    rintro v195 w191 ⟨A192, c192, lo192, hi192, A193, c193, lo193, hi193, rfl, h192, h193, ho194, hrn197, hrn198, hrn199, hE196⟩
    have hE196z := Ex.size hE196
    refine sd rfl (yl_buildSlice (cs := [.string (bs ((i_Table_withStage p_t p_name (IntKind.wrap .i64 (x102 - 1))).Name)), .slice A192 (((i_Table_withStage p_t p_name (IntKind.wrap .i64 (x102 - 1))).Cols).length) c192, .slice A193 (((i_Table_withStage p_t p_name (IntKind.wrap .i64 (x102 - 1))).Idxs).length) c193]) Tryz.un37 Tryz.ty95 (by decide) rfl (opvs_cons rfl opvs_nil) (by kernel_rfl) ?_)
    intro b200 w201 hs202 hz203 hB204 hE205
    have hO206 : OwnL w201 w122.heap.size (b200 + 1) 95 3 R_Table (some ⟨b200, 0, none⟩) 1 1 ([(i_Table_withStage p_t p_name (IntKind.wrap .i64 (x102 - 1)))] : List DTable) := OwnL.of_box (S := Iv w122.heap.size b200) hB204 (by omega) (Nat.lt_succ_self _) (EncL.cons (c := [.string (bs ((i_Table_withStage p_t p_name (IntKind.wrap .i64 (x102 - 1))).Name)), .slice A192 (((i_Table_withStage p_t p_name (IntKind.wrap .i64 (x102 - 1))).Cols).length) c192, .slice A193 (((i_Table_withStage p_t p_name (IntKind.wrap .i64 (x102 - 1))).Idxs).length) c193]) rfl ⟨A192, c192, A193, c193, rfl, (RdS.ex good_Str (RdS.wide good_Str (OwnL.rd good_Str h192) (fun b hh hl => ⟨by first | exact Nat.zero_le _ | (have := hh.1; omega), by omega⟩)) hE205), (RdS.ex good_Idx (RdS.wide good_Idx (OwnL.rd good_Idx h193) (fun b hh hl => ⟨by first | exact Nat.zero_le _ | (have := hh.1; omega), by omega⟩)) hE205)⟩ EncL.nil) (Nat.le_of_ble_eq_true rfl) (fun h => Nat.lt_irrefl _ h.2) (fun _ h => ⟨h.1, Nat.lt_succ_of_lt h.2⟩)
    refine sd rfl (yl_appendL (S := (Iv u106 w201.heap.size)) (lo := w17.heap.size) (hi := u106) (xs := x103) (ys := ([(i_Table_withStage p_t p_name (IntKind.wrap .i64 (x102 - 1)))] : List DTable)) good_Table Tryz.un37 Tryz.ty95 rfl (Nat.le_of_ble_eq_true rfl) rfl rfl rfl (OwnL.ex good_Table (OwnL.ex good_Table hf134 hE196) hE205) (EncL.cons (c := [.string (bs ((i_Table_withStage p_t p_name (IntKind.wrap .i64 (x102 - 1))).Name)), .slice A192 (((i_Table_withStage p_t p_name (IntKind.wrap .i64 (x102 - 1))).Cols).length) c192, .slice A193 (((i_Table_withStage p_t p_name (IntKind.wrap .i64 (x102 - 1))).Idxs).length) c193]) rfl ⟨A192, c192, A193, c193, rfl, (RdS.wide good_Str (OwnL.rd good_Str (OwnL.ex good_Str h192 hE205)) (fun b hh hl => ⟨by have := hh.1; omega, hl⟩)), (RdS.wide good_Idx (OwnL.rd good_Idx (OwnL.ex good_Idx h193 hE205)) (fun b hh hl => ⟨by have := hh.1; omega, hl⟩))⟩ EncL.nil) (Or.inr ⟨_, _, rfl, rfl, hB204.cells (o := 0) (n := 3) rfl⟩) rfl (by first | omega | (simp only [List.length_append, List.length_cons, List.length_nil, List.length_take, List.length_drop, List.length_replicate, List.length_set, toS_length]; omega)) (by first | omega | (simp only [List.length_append, List.length_cons, List.length_nil, List.length_take, List.length_drop, List.length_replicate, List.length_set, toS_length]; omega)) (by omega) (by omega) (fun _ h _ => h.1) (by omega) ?_)
    intro A215 c216 w217 row218 hO219 hG220 hrg221
    have hG220z := hG220.size
    refine sd rfl (yl_assign rfl rfl (SeqR.done (bn (tn ?_))))
    have hB222 : B_i_Table_wayTo_0 p_t p_name p_stage (x102, x103) = .cont (IntKind.wrap .i64 (x102 - 1), (x103 ++ ([(i_Table_withStage p_t p_name (IntKind.wrap .i64 (x102 - 1)))] : List DTable))) := by simp only [B_i_Table_wayTo_0, hb141, hb145, cond_true, cond_false, loopE_done, loopE_ret]
    have hmu235 : ((p_stage - IntKind.wrap .i64 (x102 - 1)).toNat + (IntKind.wrap .i64 (x102 - 1) - p_stage).toNat) < ((p_stage - x102).toNat + (x102 - p_stage).toNat) := by first | omega | assumption | (simp only [IntKind.wrap_i64] at *; omega)
    exact ⟨m120 - 1, by omega, IntKind.wrap .i64 (x102 - 1), (x103 ++ ([(i_Table_withStage p_t p_name (IntKind.wrap .i64 (x102 - 1)))] : List DTable)), A215, c216, w217.heap.size, (by omega), (by omega), rfl, rfl, rfl, rfl, rfl, (Box.grown (Box.ex (Box.ex hf131 hE196) hE205) hG220 (fun k hk => by have := hrg221 k hk; omega)), (RdS.grown good_Str (RdS.ex good_Str (RdS.ex good_Str hf132 hE196) hE205) hG220 (fun k hk => by have := hrg221 k hk; simp only [Iv]; omega)), (RdS.grown good_Idx (RdS.ex good_Idx (RdS.ex good_Idx hf133 hE196) hE205) hG220 (fun k hk => by have := hrg221 k hk; simp only [Iv]; omega)), hO219, (Below.grown (Ex.trans (Ex.trans hf135 hE196) hE205) hG220 (by omega) (fun k hk => by have := hrg221 k hk; omega)), (by omega), (by first | omega | (simp only [List.length_append, List.length_cons, List.length_nil, List.length_set, toS_length]; omega)), (okE.append hok138 ((okL.mk (Nat.le_of_ble_eq_true rfl) (okE.cons ho194 okE.nil))).2), (by first | omega | assumption | (simp only [IntKind.wrap_i64] at *; omega)), (by first | omega | assumption | (simp only [IntKind.wrap_i64] at *; omega)), (loopW.cont hk123 hB222).symm.trans hI124⟩
set_option maxRecDepth 100000 in
set_option maxHeartbeats 2000000 in
theorem c_i_Shift_stageOf {A1 : Option Addr} {c1 : Nat} {A2 : Option Addr} {c2 : Nat} {A3 : Option Addr} {c3 : Nat} {A5 : Option Addr} {c5 : Nat} {A6 : Option Addr} {c6 : Nat} {w : World} (p_c : DShift) (p_t : DTable) (h1 : RdS w (Iv 0 w.heap.size) R_Table 3 A1 p_c.Ways.length c1 p_c.Ways) (h2 : RdS w (Iv 0 w.heap.size) (RF e_Int) 1 A2 p_c.At.length c2 p_c.At) (h3 : RdS w (Iv 0 w.heap.size) (RF e_Write) 3 A3 p_c.Store.length c3 p_c.Store) (h5 : RdS w (Iv 0 w.heap.size) (RF e_Str) 1 A5 p_t.Cols.length c5 p_t.Cols) (h6 : RdS w (Iv 0 w.heap.size) (RF e_Idx) 3 A6 p_t.Idxs.length c6 p_t.Idxs) (o4 : ok_Shift p_c) (o7 : ok_Table p_t) (pre0 : (0 ≤ i_Table_findIdx p_t p_c.Name ∧ i_Table_findIdx p_t p_c.Name < (p_t.Idxs.length : Int))) : Cal Tryz.prog 72 #[.agg #[.string (bs (p_c.Name)), .slice A1 p_c.Ways.length c1, .slice A2 p_c.At.length c2, .slice A3 p_c.Store.length c3], .agg #[.string (bs (p_t.Name)), .slice A5 p_t.Cols.length c5, .slice A6 p_t.Idxs.length c6]] w fun v w' => v = .int .i64 ((i_Shift_stageOf p_c p_t)) ∧ Ex w w' := by
 have hol8 : p_c.Name.length ≤ 1073741824 := o4.1
 have hol9 := o4.2.1.1
 have hol10 := o4.2.2.1.1
 have hol11 := o4.2.2.2.1
 have hol12 : p_t.Name.length ≤ 1073741824 := o7.1
 have hol13 := o7.2.1.1
 have hol14 := o7.2.2.1
 refine Cal.of (vs := [.agg #[.string (bs (p_c.Name)), .slice A1 p_c.Ways.length c1, .slice A2 p_c.At.length c2, .slice A3 p_c.Store.length c3], .agg #[.string (bs (p_t.Name)), .slice A5 p_t.Cols.length c5, .slice A6 p_t.Idxs.length c6]]) Tryz.func72 rfl Tryz.ntmps72 rfl (CW.seq (CW.region (sd rfl (yl_box (cs := [.string (bs (p_c.Name)), .slice A1 p_c.Ways.length c1, .slice A2 p_c.At.length c2, .slice A3 p_c.Store.length c3]) rfl rfl rfl ?_))))
 intro b15 w16 hs17 hz18 hB19 hE20
 refine sd rfl (yl_box (cs := [.string (bs (p_t.Name)), .slice A5 p_t.Cols.length c5, .slice A6 p_t.Idxs.length c6]) rfl rfl rfl ?_)
 intro b21 w22 hs23 hz24 hB25 hE26
 refine sd rfl (yl_assign rfl rfl (SeqR.done (tn (CW.seq (CW.region (sd rfl (yl_loadN (cs := [.string (bs (p_t.Name)), .slice A5 p_t.Cols.length c5, .slice A6 p_t.Idxs.length c6]) Tryz.ty95 rfl rfl (hB25.cells (n := 3) rfl) rfl (sd rfl (yl_fieldAddr Tryz.fd40_0 rfl rfl (sd rfl (yl_load1 Tryz.ty9 rfl rfl (((Box.ex hB19 hE26).cell 0).trans rfl) (sd rfl (yl_call Tryz.en104 rfl (opvs_cons rfl (opvs_cons rfl opvs_nil)) (Cal.mono (c_i_Table_idx p_t p_c.Name (RdS.up (RdS.ex good_Str (RdS.ex good_Str h5 hE20) hE26) good_Str) (RdS.up (RdS.ex good_Idx (RdS.ex good_Idx h6 hE20) hE26) good_Idx) o7 o4.1 (by first | omega | assumption | (simp only [IntKind.wrap_i64] at *; omega))) ?_))))))))))))))
 rintro v34 w32 ⟨rfl, ho33, hE35⟩
 have hE35z := Ex.size hE35
 refine sd rfl (yl_field1 Tryz.fd137_2 rfl rfl rfl (sd rfl (yl_assign rfl rfl (SeqR.done (tn (CW.ret (rr rfl (.cons rfl .nil) ?_)))))))
 have hM36 : (i_Shift_stageOf p_c p_t) = ((i_Table_idx p_t p_c.Name).Stage) := by simp only [i_Shift_stageOf, cond_true, cond_false, loopE_done, loopE_ret]
 rw [hM36]
 exact ⟨rfl, (Ex.trans (Ex.trans (Ex.trans (Ex.refl w) hE20) hE26) hE35)⟩
set_option maxRecDepth 100000 in
set_option maxHeartbeats 2000000 in
theorem c_g_slices_Equal_string {A1 : Option Addr} {c1 : Nat} {A3 : Option Addr} {c3 : Nat} {w : World} (p_s1 : List Str) (p_s2 : List Str) (h1 : RdS w (Iv 0 w.heap.size) (RF e_Str) 1 A1 p_s1.length c1 p_s1) (h3 : RdS w (Iv 0 w.heap.size) (RF e_Str) 1 A3 p_s2.length c3 p_s2) (o2 : (okL okS) p_s1) (o4 : (okL okS) p_s2) : Cal Tryz.prog 107 #[.slice A1 p_s1.length c1, .slice A3 p_s2.length c3] w fun v w' => v = .bool ((g_slices_Equal_string p_s1 p_s2)) ∧ Ex w w' := by
 have hol5 := o2.1
 have hol6 := o4.1
 refine Cal.of (vs := [.slice A1 p_s1.length c1, .slice A3 p_s2.length c3]) Tryz.func107 rfl Tryz.ntmps107 rfl (CW.seq (CW.region (sd rfl (yl_assign rfl rfl (SeqR.done (tn (CW.seq (CW.seq (CW.region ?_)))))))))
 refine sd rfl (yl_move rfl rfl (sd rfl (yl_len Tryz.un27 rfl rfl (sd rfl (yl_move rfl rfl (sd rfl (yl_len Tryz.un27 rfl rfl (sd rfl (yl_neq rfl rfl rfl (SeqR.done (tn (bcase (decide ((p_s1.length : Int) = (p_s2.length : Int))) (fun hb7 => ?_) (fun hb7 => ?_)))))))))))))
 ·have hb7p := dec_t hb7
  refine CW.cond_f rfl (not_t hb7) (CW.skip (tn (CW.seq (CW.seq (CW.region (sd rfl (yl_move rfl rfl (sd rfl (yl_len Tryz.un27 rfl rfl (sd rfl (yl_move rfl rfl ?_)))))))))))
  refine SeqR.done (tn (CW.block (CW.loop (fun m9 L10 w11 => ∃ (k8 : Nat), m9 = p_s1.length - k8 ∧ k8 ≤ p_s1.length ∧ w.heap.size ≤ w11.heap.size ∧ lkp L10 0 = some (.slice A1 p_s1.length c1) ∧ lkp L10 1 = some (.slice A3 p_s2.length c3) ∧ lkp L10 12 = some (.int .i64 ((p_s1.length : Int))) ∧ lkp L10 13 = some (.int .i64 ((k8 : Int))) ∧ RdS w11 (Iv 0 w.heap.size) (RF e_Str) 1 A1 p_s1.length c1 p_s1 ∧ RdS w11 (Iv 0 w.heap.size) (RF e_Str) 1 A3 p_s2.length c3 p_s2 ∧ Ex w w11 ∧ loopM (B_g_slices_Equal_string_0 p_s1 p_s2) (p_s1.length - k8) k8 () = loopM (B_g_slices_Equal_string_0 p_s1 p_s2) (p_s1.length - 0) 0 ()) (p_s1.length - 0) ?_ ?_)))
  ·exact ⟨0, rfl, (by omega), Nat.le_refl _, rfl, rfl, rfl, rfl, h1, h3, (Ex.refl w), rfl⟩
  ·rintro m12 L13 w14 ⟨k8, rfl, hk15, hsz17, hl18, hl19, hl20, hl21, hf22, hf23, hf24, hI16⟩
   refine CW.sub (Sub.cons hl18 (Sub.cons hl19 (Sub.cons hl20 (Sub.cons hl21 (Sub.nil _))))) ?_
   have hf24z := Ex.size hf24
   have hbg25 := RdS.big hf22
   rcases Nat.lt_or_ge k8 p_s1.length with hlt26 | hlt26
   ·refine CW.seq (CW.region (sd rfl (yl_lss rfl rfl rfl (SeqR.done (tn (CW.seq (CW.cond_t rfl (lt_t hlt26) (CW.skip (tn ?_)))))))))
    refine CW.seq (CW.block (CW.seq (CW.region (sd rfl (yl_move rfl rfl (sd rfl (yl_assign rfl rfl (SeqR.done (tn (CW.seq ?_))))))))))
    obtain ⟨eb27, eo27, ec27, eA27, eS27, ebl27, el27, eR27, eC27⟩ := RdS.atD hf22 d_Str (i := k8) (by first | omega | assumption)
    obtain rfl := eR27
    have eC27 : Cells w14 eb27 (eo27 + k8 * 1) [.string (bs ((p_s1.getD k8 d_Str)))] := eC27
    obtain ⟨eb28, eo28, ec28, eA28, eS28, ebl28, el28, eR28, eC28⟩ := RdS.atD hf23 d_Str (i := k8) (by first | omega | assumption)
    obtain rfl := eR28
    have eC28 : Cells w14 eb28 (eo28 + k8 * 1) [.string (bs ((p_s2.getD k8 d_Str)))] := eC28
    refine CW.drawsI 9 (vgetI [DetI (.slice A1 p_s1.length c1), DetI (.int .i64 ((k8 : Int))), DetI (.pointer (some ⟨eb27, eo27 + k8 * 1, none⟩)), DetI (.string (bs ((p_s1.getD k8 d_Str)))), DetI (.slice A3 p_s2.length c3), DetI (.int .i64 ((k8 : Int))), DetI (.pointer (some ⟨eb28, eo28 + k8 * 1, none⟩)), DetI (.string (bs ((p_s2.getD k8 d_Str)))), DetI (.bool (!((p_s1.getD k8 d_Str) == (p_s2.getD k8 d_Str))))]) Tryz.follows rfl rfl rfl rfl rfl rfl (vgetI_stable ⟨StableI.det _, StableI.det _, StableI.det _, StableI.det _, StableI.det _, StableI.det _, StableI.det _, StableI.det _, StableI.det _, trivial⟩) ⟨?_, ?_, ?_, ?_, ?_, ?_, ?_, ?_, ?_, trivial⟩ ?_
    ·exact fun _ _ h => os rfl ((yl_move rfl (h.old 0 _ rfl rfl) kI))
    ·exact fun _ _ h => os rfl ((yl_move rfl (h.old 5 _ rfl rfl) kI))
    ·intro L39 w40 hi41
     have hE42 := hi41.ex
     have hE42z := Ex.size hE42
     exact os rfl ((yl_indexAddrN Tryz.un27 Tryz.ty9 rfl (hi41.dt 0 16 rfl rfl rfl) (hi41.dt 1 17 rfl rfl rfl) eA27 (by first | omega | assumption | (simp only [IntKind.wrap_i64] at *; omega)) kI))
    ·exact fun _ _ h => os rfl ((yl_load1 Tryz.ty9 rfl (h.dt 2 18 rfl rfl rfl) ((Cells.ex eC27 h.ex) 0 _ rfl) kI))
    ·exact fun _ _ h => os rfl ((yl_move rfl (h.old 1 _ rfl rfl) kI))
    ·exact fun _ _ h => os rfl ((yl_move rfl (h.old 5 _ rfl rfl) kI))
    ·intro L61 w62 hi63
     have hE64 := hi63.ex
     have hE64z := Ex.size hE64
     exact os rfl ((yl_indexAddrN Tryz.un27 Tryz.ty9 rfl (hi63.dt 4 20 rfl rfl rfl) (hi63.dt 5 21 rfl rfl rfl) eA28 (by first | omega | assumption | (simp only [IntKind.wrap_i64] at *; omega)) kI))
    ·exact fun _ _ h => os rfl ((yl_load1 Tryz.ty9 rfl (h.dt 6 22 rfl rfl rfl) ((Cells.ex eC28 h.ex) 0 _ rfl) kI))
    ·exact fun _ _ h => os rfl ((yl_sneq (a := (p_s1.getD k8 d_Str)) (b := (p_s2.getD k8 d_Str)) rfl (h.dt 3 19 rfl rfl rfl) (h.dt 7 23 rfl rfl rfl) kI))
    ·intro fl82 fh83 L79 w80 hp81
     have hE84 := hp81.ex
     have hE84z := Ex.size hE84
     refine SeqR.done (tn (CW.sub (Sub.cons (d := 0) (hp81.old 0 _ rfl rfl) (Sub.cons (d := 1) (hp81.old 1 _ rfl rfl) (Sub.cons (d := 12) (hp81.old 12 _ rfl rfl) (Sub.cons (d := 13) (hp81.old 13 _ rfl rfl) (Sub.cons (d := 24) (hp81.nt 8 24 rfl rfl rfl) (Sub.nil _)))))) (bcase ((p_s1.getD k8 d_Str) == (p_s2.getD k8 d_Str)) (fun hb90 => ?_) (fun hb90 => ?_))))
     ·refine CW.cond_f rfl (not_t hb90) (CW.skip (bn (tn (CW.region (sd rfl (yl_inc rfl rfl rfl (by omega) (sd rfl (yl_move rfl rfl (SeqR.done (tn ?_))))))))))
      have hB91 : B_g_slices_Equal_string_0 p_s1 p_s2 k8 () = .cont () := by simp only [B_g_slices_Equal_string_0, hb7, hb90, cond_true, cond_false, loopE_done, loopE_ret]
      exact ⟨p_s1.length - (k8 + 1), by omega, k8 + 1, rfl, hlt26, (by omega), rfl, rfl, rfl, rfl, (RdS.ex good_Str hf22 hE84), (RdS.ex good_Str hf23 hE84), (Ex.trans hf24 hE84), (loopM.cont hlt26 hB91).symm.trans hI16⟩
     ·refine CW.cond_t rfl (not_f hb90) (CW.seq (CW.region (sd rfl (yl_assign rfl rfl (SeqR.done (tn (CW.ret (br (tr ?_)))))))))
      refine tr ?_
      have hB96 : B_g_slices_Equal_string_0 p_s1 p_s2 k8 () = .ret false := by simp only [B_g_slices_Equal_string_0, hb7, hb90, cond_true, cond_false, loopE_done, loopE_ret]
      have hL95 : loopM (B_g_slices_Equal_string_0 p_s1 p_s2) (p_s1.length - 0) 0 () = .ret false := hI16.symm.trans (loopM.ret hlt26 hB96)
      refine br (tr (rr rfl (.cons rfl .nil) ?_))
      have hM97 : (g_slices_Equal_string p_s1 p_s2) = (false) := by simp only [g_slices_Equal_string, hb7, hb90, hL95, cond_true, cond_false, loopE_done, loopE_ret]
      rw [hM97]
      exact ⟨rfl, (Ex.trans hf24 hE84)⟩
   ·refine CW.seq (CW.region (sd rfl (yl_lss rfl rfl rfl (SeqR.done (tn (CW.seq (CW.cond_f rfl (lt_f hlt26) (CW.exit (tx ?_)))))))))
    refine tx ?_
    have hL99 : loopM (B_g_slices_Equal_string_0 p_s1 p_s2) (p_s1.length - 0) 0 () = .done () := hI16.symm.trans (loopM.stop hlt26)
    refine bx (tn (CW.seq (CW.region (sd rfl (yl_assign rfl rfl (SeqR.done (tn (CW.ret (rr rfl (.cons rfl .nil) ?_)))))))))
    have hM100 : (g_slices_Equal_string p_s1 p_s2) = (true) := by simp only [g_slices_Equal_string, hb7, hL99, cond_true, cond_false, loopE_done, loopE_ret]
    rw [hM100]
    exact ⟨rfl, hf24⟩
 ·have hb7p := dec_f hb7
  refine CW.cond_t rfl (not_f hb7) (CW.seq (CW.region (sd rfl (yl_assign rfl rfl (SeqR.done (tn (CW.ret (tr (rr rfl (.cons rfl .nil) ?_)))))))))
  have hM101 : (g_slices_Equal_string p_s1 p_s2) = (false) := by simp only [g_slices_Equal_string, hb7, cond_true, cond_false, loopE_done, loopE_ret]
  rw [hM101]
  exact ⟨rfl, (Ex.refl w)⟩
set_option maxRecDepth 100000 in
set_option maxHeartbeats 2000000 in
theorem c_g_slices_Equal_Idx {A1 : Option Addr} {c1 : Nat} {A3 : Option Addr} {c3 : Nat} {w : World} (p_s1 : List DIdx) (p_s2 : List DIdx) (h1 : RdS w (Iv 0 w.heap.size) (RF e_Idx) 3 A1 p_s1.length c1 p_s1) (h3 : RdS w (Iv 0 w.heap.size) (RF e_Idx) 3 A3 p_s2.length c3 p_s2) (o2 : (okL ok_Idx) p_s1) (o4 : (okL ok_Idx) p_s2) : Cal Tryz.prog 108 #[.slice A1 p_s1.length c1, .slice A3 p_s2.length c3] w fun v w' => v = .bool ((g_slices_Equal_Idx p_s1 p_s2)) ∧ Ex w w' := by
 have hol5 := o2.1
 have hol6 := o4.1
 refine Cal.of (vs := [.slice A1 p_s1.length c1, .slice A3 p_s2.length c3]) Tryz.func108 rfl Tryz.ntmps108 rfl (CW.seq (CW.region (sd rfl (yl_assign rfl rfl (SeqR.done (tn (CW.seq (CW.seq (CW.region ?_)))))))))
 refine sd rfl (yl_move rfl rfl (sd rfl (yl_len Tryz.un93 rfl rfl (sd rfl (yl_move rfl rfl (sd rfl (yl_len Tryz.un93 rfl rfl (sd rfl (yl_neq rfl rfl rfl (SeqR.done (tn (bcase (decide ((p_s1.length : Int) = (p_s2.length : Int))) (fun hb7 => ?_) (fun hb7 => ?_)))))))))))))
 ·have hb7p := dec_t hb7
  refine CW.cond_f rfl (not_t hb7) (CW.skip (tn (CW.seq (CW.seq (CW.region (sd rfl (yl_move rfl rfl (sd rfl (yl_len Tryz.un93 rfl rfl (sd rfl (yl_move rfl rfl ?_)))))))))))
  refine SeqR.done (tn (CW.block (CW.loop (fun m9 L10 w11 => ∃ (k8 : Nat), m9 = p_s1.length - k8 ∧ k8 ≤ p_s1.length ∧ w.heap.size ≤ w11.heap.size ∧ lkp L10 0 = some (.slice A1 p_s1.length c1) ∧ lkp L10 1 = some (.slice A3 p_s2.length c3) ∧ lkp L10 12 = some (.int .i64 ((p_s1.length : Int))) ∧ lkp L10 13 = some (.int .i64 ((k8 : Int))) ∧ RdS w11 (Iv 0 w.heap.size) (RF e_Idx) 3 A1 p_s1.length c1 p_s1 ∧ RdS w11 (Iv 0 w.heap.size) (RF e_Idx) 3 A3 p_s2.length c3 p_s2 ∧ Ex w w11 ∧ loopM (B_g_slices_Equal_Idx_0 p_s1 p_s2) (p_s1.length - k8) k8 () = loopM (B_g_slices_Equal_Idx_0 p_s1 p_s2) (p_s1.length - 0) 0 ()) (p_s1.length - 0) ?_ ?_)))
  ·exact ⟨0, rfl, (by omega), Nat.le_refl _, rfl, rfl, rfl, rfl, h1, h3, (Ex.refl w), rfl⟩
  ·rintro m12 L13 w14 ⟨k8, rfl, hk15, hsz17, hl18, hl19, hl20, hl21, hf22, hf23, hf24, hI16⟩
   refine CW.sub (Sub.cons hl18 (Sub.cons hl19 (Sub.cons hl20 (Sub.cons hl21 (Sub.nil _))))) ?_
   have hf24z := Ex.size hf24
   have hbg25 := RdS.big hf22
   rcases Nat.lt_or_ge k8 p_s1.length with hlt26 | hlt26
   ·refine CW.seq (CW.region (sd rfl (yl_lss rfl rfl rfl (SeqR.done (tn (CW.seq (CW.cond_t rfl (lt_t hlt26) (CW.skip (tn ?_)))))))))
    refine CW.seq (CW.block (CW.seq (CW.region (sd rfl (yl_move rfl rfl (sd rfl (yl_assign rfl rfl (SeqR.done (tn (CW.seq ?_))))))))))
    obtain ⟨eb27, eo27, ec27, eA27, eS27, ebl27, el27, eR27, eC27⟩ := RdS.atD hf22 d_Idx (i := k8) (by first | omega | assumption)
    obtain rfl := eR27
    have eC27 : Cells w14 eb27 (eo27 + k8 * 3) [.string (bs ((p_s1.getD k8 d_Idx).Name)), .int .i64 ((p_s1.getD k8 d_Idx).Col), .int .i64 ((p_s1.getD k8 d_Idx).Stage)] := eC27
    obtain ⟨eb28, eo28, ec28, eA28, eS28, ebl28, el28, eR28, eC28⟩ := RdS.atD hf23 d_Idx (i := k8) (by first | omega | assumption)
    obtain rfl := eR28
    have eC28 : Cells w14 eb28 (eo28 + k8 * 3) [.string (bs ((p_s2.getD k8 d_Idx).Name)), .int .i64 ((p_s2.getD k8 d_Idx).Col), .int .i64 ((p_s2.getD k8 d_Idx).Stage)] := eC28
    refine CW.drawsI 9 (vgetI [DetI (.slice A1 p_s1.length c1), DetI (.int .i64 ((k8 : Int))), DetI (.pointer (some ⟨eb27, eo27 + k8 * 3, none⟩)), DetI (.agg #[.string (bs ((p_s1.getD k8 d_Idx).Name)), .int .i64 ((p_s1.getD k8 d_Idx).Col), .int .i64 ((p_s1.getD k8 d_Idx).Stage)]), DetI (.slice A3 p_s2.length c3), DetI (.int .i64 ((k8 : Int))), DetI (.pointer (some ⟨eb28, eo28 + k8 * 3, none⟩)), DetI (.agg #[.string (bs ((p_s2.getD k8 d_Idx).Name)), .int .i64 ((p_s2.getD k8 d_Idx).Col), .int .i64 ((p_s2.getD k8 d_Idx).Stage)]), DetI (.bool (!((((p_s1.getD k8 d_Idx).Name) == ((p_s2.getD k8 d_Idx).Name)) && ((decide (((p_s1.getD k8 d_Idx).Col) = ((p_s2.getD k8 d_Idx).Col))) && (decide (((p_s1.getD k8 d_Idx).Stage) = ((p_s2.getD k8 d_Idx).Stage)))))))]) Tryz.follows rfl rfl rfl rfl rfl rfl (vgetI_stable ⟨StableI.det _, StableI.det _, StableI.det _, StableI.det _, StableI.det _, StableI.det _, StableI.det _, StableI.det _, StableI.det _, trivial⟩) ⟨?_, ?_, ?_, ?_, ?_, ?_, ?_, ?_, ?_, trivial⟩ ?_
    ·exact fun _ _ h => os rfl ((yl_move rfl (h.old 0 _ rfl rfl) kI))
    ·exact fun _ _ h => os rfl ((yl_move rfl (h.old 5 _ rfl rfl) kI))
    ·intro L39 w40 hi41
     have hE42 := hi41.ex
     have hE42z := Ex.size hE42
     exact os rfl ((yl_indexAddrN Tryz.un93 Tryz.ty137 rfl (hi41.dt 0 16 rfl rfl rfl) (hi41.dt 1 17 rfl rfl rfl) eA27 (by first | omega | assumption | (simp only [IntKind.wrap_i64] at *; omega)) kI))
    ·exact fun _ _ h => os rfl ((yl_loadN (cs := [.string (bs ((p_s1.getD k8 d_Idx).Name)), .int .i64 ((p_s1.getD k8 d_Idx).Col), .int .i64 ((p_s1.getD k8 d_Idx).Stage)]) Tryz.ty137 rfl (h.dt 2 18 rfl rfl rfl) (Cells.ex eC27 h.ex) rfl kI))
    ·exact fun _ _ h => os rfl ((yl_move rfl (h.old 1 _ rfl rfl) kI))
    ·exact fun _ _ h => os rfl ((yl_move rfl (h.old 5 _ rfl rfl) kI))
    ·intro L61 w62 hi63
     have hE64 := hi63.ex
     have hE64z := Ex.size hE64
     exact os rfl ((yl_indexAddrN Tryz.un93 Tryz.ty137 rfl (hi63.dt 4 20 rfl rfl rfl) (hi63.dt 5 21 rfl rfl rfl) eA28 (by first | omega | assumption | (simp only [IntKind.wrap_i64] at *; omega)) kI))
    ·exact fun _ _ h => os rfl ((yl_loadN (cs := [.string (bs ((p_s2.getD k8 d_Idx).Name)), .int .i64 ((p_s2.getD k8 d_Idx).Col), .int .i64 ((p_s2.getD k8 d_Idx).Stage)]) Tryz.ty137 rfl (h.dt 6 22 rfl rfl rfl) (Cells.ex eC28 h.ex) rfl kI))
    ·exact fun _ _ h => os rfl ((yl_aneq (xs := [.string (bs ((p_s1.getD k8 d_Idx).Name)), .int .i64 ((p_s1.getD k8 d_Idx).Col), .int .i64 ((p_s1.getD k8 d_Idx).Stage)]) (ys := [.string (bs ((p_s2.getD k8 d_Idx).Name)), .int .i64 ((p_s2.getD k8 d_Idx).Col), .int .i64 ((p_s2.getD k8 d_Idx).Stage)]) Tryz.ae137 rfl (h.dt 3 19 rfl rfl rfl) (h.dt 7 23 rfl rfl rfl) kI))
    ·intro fl82 fh83 L79 w80 hp81
     have hE84 := hp81.ex
     have hE84z := Ex.size hE84
     refine SeqR.done (tn (CW.sub (Sub.cons (d := 0) (hp81.old 0 _ rfl rfl) (Sub.cons (d := 1) (hp81.old 1 _ rfl rfl) (Sub.cons (d := 12) (hp81.old 12 _ rfl rfl) (Sub.cons (d := 13) (hp81.old 13 _ rfl rfl) (Sub.cons (d := 24) (hp81.nt 8 24 rfl rfl rfl) (Sub.nil _)))))) (bcase ((((p_s1.getD k8 d_Idx).Name) == ((p_s2.getD k8 d_Idx).Name)) && ((decide (((p_s1.getD k8 d_Idx).Col) = ((p_s2.getD k8 d_Idx).Col))) && (decide (((p_s1.getD k8 d_Idx).Stage) = ((p_s2.getD k8 d_Idx).Stage))))) (fun hb90 => ?_) (fun hb90 => ?_))))
     ·refine CW.cond_f rfl (not_t hb90) (CW.skip (bn (tn (CW.region (sd rfl (yl_inc rfl rfl rfl (by omega) (sd rfl (yl_move rfl rfl (SeqR.done (tn ?_))))))))))
      have hB91 : B_g_slices_Equal_Idx_0 p_s1 p_s2 k8 () = .cont () := by simp only [B_g_slices_Equal_Idx_0, hb7, hb90, cond_true, cond_false, loopE_done, loopE_ret]
      exact ⟨p_s1.length - (k8 + 1), by omega, k8 + 1, rfl, hlt26, (by omega), rfl, rfl, rfl, rfl, (RdS.ex good_Idx hf22 hE84), (RdS.ex good_Idx hf23 hE84), (Ex.trans hf24 hE84), (loopM.cont hlt26 hB91).symm.trans hI16⟩
     ·refine CW.cond_t rfl (not_f hb90) (CW.seq (CW.region (sd rfl (yl_assign rfl rfl (SeqR.done (tn (CW.ret (br (tr ?_)))))))))
      refine tr ?_
      have hB96 : B_g_slices_Equal_Idx_0 p_s1 p_s2 k8 () = .ret false := by simp only [B_g_slices_Equal_Idx_0, hb7, hb90, cond_true, cond_false, loopE_done, loopE_ret]
      have hL95 : loopM (B_g_slices_Equal_Idx_0 p_s1 p_s2) (p_s1.length - 0) 0 () = .ret false := hI16.symm.trans (loopM.ret hlt26 hB96)
      refine br (tr (rr rfl (.cons rfl .nil) ?_))
      have hM97 : (g_slices_Equal_Idx p_s1 p_s2) = (false) := by simp only [g_slices_Equal_Idx, hb7, hb90, hL95, cond_true, cond_false, loopE_done, loopE_ret]
      rw [hM97]
      exact ⟨rfl, (Ex.trans hf24 hE84)⟩
   ·refine CW.seq (CW.region (sd rfl (yl_lss rfl rfl rfl (SeqR.done (tn (CW.seq (CW.cond_f rfl (lt_f hlt26) (CW.exit (tx ?_)))))))))
    refine tx ?_
    have hL99 : loopM (B_g_slices_Equal_Idx_0 p_s1 p_s2) (p_s1.length - 0) 0 () = .done () := hI16.symm.trans (loopM.stop hlt26)
    refine bx (tn (CW.seq (CW.region (sd rfl (yl_assign rfl rfl (SeqR.done (tn (CW.ret (rr rfl (.cons rfl .nil) ?_)))))))))
    have hM100 : (g_slices_Equal_Idx p_s1 p_s2) = (true) := by simp only [g_slices_Equal_Idx, hb7, hL99, cond_true, cond_false, loopE_done, loopE_ret]
    rw [hM100]
    exact ⟨rfl, hf24⟩
 ·have hb7p := dec_f hb7
  refine CW.cond_t rfl (not_f hb7) (CW.seq (CW.region (sd rfl (yl_assign rfl rfl (SeqR.done (tn (CW.ret (tr (rr rfl (.cons rfl .nil) ?_)))))))))
  have hM101 : (g_slices_Equal_Idx p_s1 p_s2) = (false) := by simp only [g_slices_Equal_Idx, hb7, cond_true, cond_false, loopE_done, loopE_ret]
  rw [hM101]
  exact ⟨rfl, (Ex.refl w)⟩
set_option maxRecDepth 100000 in
set_option maxHeartbeats 2000000 in
theorem c_i_sameTable {A1 : Option Addr} {c1 : Nat} {A2 : Option Addr} {c2 : Nat} {A4 : Option Addr} {c4 : Nat} {A5 : Option Addr} {c5 : Nat} {w : World} (p_a : DTable) (p_b : DTable) (h1 : RdS w (Iv 0 w.heap.size) (RF e_Str) 1 A1 p_a.Cols.length c1 p_a.Cols) (h2 : RdS w (Iv 0 w.heap.size) (RF e_Idx) 3 A2 p_a.Idxs.length c2 p_a.Idxs) (h4 : RdS w (Iv 0 w.heap.size) (RF e_Str) 1 A4 p_b.Cols.length c4 p_b.Cols) (h5 : RdS w (Iv 0 w.heap.size) (RF e_Idx) 3 A5 p_b.Idxs.length c5 p_b.Idxs) (o3 : ok_Table p_a) (o6 : ok_Table p_b) : Cal Tryz.prog 73 #[.agg #[.string (bs (p_a.Name)), .slice A1 p_a.Cols.length c1, .slice A2 p_a.Idxs.length c2], .agg #[.string (bs (p_b.Name)), .slice A4 p_b.Cols.length c4, .slice A5 p_b.Idxs.length c5]] w fun v w' => v = .bool ((i_sameTable p_a p_b)) ∧ Ex w w' := by
 have hol7 : p_a.Name.length ≤ 1073741824 := o3.1
 have hol8 := o3.2.1.1
 have hol9 := o3.2.2.1
 have hol10 : p_b.Name.length ≤ 1073741824 := o6.1
 have hol11 := o6.2.1.1
 have hol12 := o6.2.2.1
 refine Cal.of (vs := [.agg #[.string (bs (p_a.Name)), .slice A1 p_a.Cols.length c1, .slice A2 p_a.Idxs.length c2], .agg #[.string (bs (p_b.Name)), .slice A4 p_b.Cols.length c4, .slice A5 p_b.Idxs.length c5]]) Tryz.func73 rfl Tryz.ntmps73 rfl (CW.seq (CW.region (sd rfl (yl_box (cs := [.string (bs (p_a.Name)), .slice A1 p_a.Cols.length c1, .slice A2 p_a.Idxs.length c2]) rfl rfl rfl ?_))))
 intro b13 w14 hs15 hz16 hB17 hE18
 refine sd rfl (yl_box (cs := [.string (bs (p_b.Name)), .slice A4 p_b.Cols.length c4, .slice A5 p_b.Idxs.length c5]) rfl rfl rfl ?_)
 intro b19 w20 hs21 hz22 hB23 hE24
 refine sd rfl (yl_assign rfl rfl (SeqR.done (tn (CW.seq (CW.region (sd rfl (yl_fieldAddr Tryz.fd95_0 rfl rfl ?_)))))))
 have q25 := Box.ex hB17 hE24
 refine sd rfl (yl_load1 Tryz.ty9 rfl rfl ((q25.cell 0).trans rfl) (sd rfl (yl_fieldAddr Tryz.fd95_0 rfl rfl (sd rfl (yl_load1 Tryz.ty9 rfl rfl ((hB23.cell 0).trans rfl) (sd rfl (yl_seql (a := p_a.Name) (b := p_b.Name) rfl rfl rfl (sd rfl (yl_move rfl rfl (bcase (p_a.Name == p_b.Name) (fun hb26 => ?_) (fun hb26 => ?_)))))))))))
 ·refine sy rfl rfl hb26 (yl_fieldAddr Tryz.fd95_1 rfl rfl (sy rfl rfl hb26 (yl_load1 Tryz.ty27 rfl rfl ((q25.cell 1).trans rfl) (sy rfl rfl hb26 (yl_fieldAddr Tryz.fd95_1 rfl rfl (sy rfl rfl hb26 (yl_load1 Tryz.ty27 rfl rfl ((hB23.cell 1).trans rfl) (sy rfl rfl hb26 (yl_call Tryz.en107 rfl (opvs_cons rfl (opvs_cons rfl opvs_nil)) (Cal.mono (c_g_slices_Equal_string p_a.Cols p_b.Cols (RdS.up (RdS.ex good_Str (RdS.ex good_Str h1 hE18) hE24) good_Str) (RdS.up (RdS.ex good_Str (RdS.ex good_Str h4 hE18) hE24) good_Str) o3.2.1 o6.2.1) ?_))))))))))
  rintro v32 w31 ⟨rfl, hE33⟩
  have hE33z := Ex.size hE33
  refine sd rfl (yl_pick_t rfl rfl hb26 rfl (sd rfl (yl_move rfl rfl (bcase (g_slices_Equal_string p_a.Cols p_b.Cols) (fun hb34 => ?_) (fun hb34 => ?_)))))
  ·refine sy rfl rfl hb34 (yl_fieldAddr Tryz.fd95_2 rfl rfl (sy rfl rfl hb34 (yl_load1 Tryz.ty93 rfl rfl (((Box.ex q25 hE33).cell 2).trans rfl) (sy rfl rfl hb34 (yl_fieldAddr Tryz.fd95_2 rfl rfl (sy rfl rfl hb34 (yl_load1 Tryz.ty93 rfl rfl (((Box.ex hB23 hE33).cell 2).trans rfl) (sy rfl rfl hb34 (yl_call Tryz.en108 rfl (opvs_cons rfl (opvs_cons rfl opvs_nil)) (Cal.mono (c_g_slices_Equal_Idx p_a.Idxs p_b.Idxs (RdS.up (RdS.ex good_Idx (RdS.ex good_Idx (RdS.ex good_Idx h2 hE18) hE24) hE33) good_Idx) (RdS.up (RdS.ex good_Idx (RdS.ex good_Idx (RdS.ex good_Idx h5 hE18) hE24) hE33) good_Idx) o3.2.2 o6.2.2) ?_))))))))))
   rintro v44 w43 ⟨rfl, hE45⟩
   have hE45z := Ex.size hE45
   refine sd rfl (yl_pick_t rfl rfl hb34 rfl (sd rfl (yl_assign rfl rfl (SeqR.done (tn (CW.ret (rr rfl (.cons rfl .nil) ?_)))))))
   have hM46 : (i_sameTable p_a p_b) = ((g_slices_Equal_Idx p_a.Idxs p_b.Idxs)) := by simp only [i_sameTable, hb26, hb34, cond_true, cond_false, loopE_done, loopE_ret]
   rw [hM46]
   exact ⟨rfl, (Ex.trans (Ex.trans (Ex.trans (Ex.trans (Ex.refl w) hE18) hE24) hE33) hE45)⟩
  ·refine sz rfl rfl hb34 (sz rfl rfl hb34 (sz rfl rfl hb34 (sz rfl rfl hb34 (sz rfl rfl hb34 (sd rfl (yl_pick_f rfl rfl hb34 rfl (sd rfl (yl_assign rfl rfl (SeqR.done (tn ?_))))))))))
   refine CW.ret (rr rfl (.cons rfl .nil) ?_)
   have hM51 : (i_sameTable p_a p_b) = (false) := by simp only [i_sameTable, hb26, hb34, cond_true, cond_false, loopE_done, loopE_ret]
   rw [hM51]
   exact ⟨rfl, (Ex.trans (Ex.trans (Ex.trans (Ex.refl w) hE18) hE24) hE33)⟩
 ·refine sz rfl rfl hb26 (sz rfl rfl hb26 (sz rfl rfl hb26 (sz rfl rfl hb26 (sz rfl rfl hb26 (sd rfl (yl_pick_f rfl rfl hb26 rfl (sd rfl (yl_move rfl rfl (sz rfl rfl rfl (sz rfl rfl rfl ?_))))))))))
  refine sz rfl rfl rfl (sz rfl rfl rfl (sz rfl rfl rfl (sd rfl (yl_pick_f rfl rfl rfl rfl (sd rfl (yl_assign rfl rfl (SeqR.done (tn (CW.ret (rr rfl (.cons rfl .nil) ?_))))))))))
  have hM55 : (i_sameTable p_a p_b) = (false) := by simp only [i_sameTable, hb26, cond_true, cond_false, loopE_done, loopE_ret]
  rw [hM55]
  exact ⟨rfl, (Ex.trans (Ex.trans (Ex.refl w) hE18) hE24)⟩
set_option maxRecDepth 100000 in
set_option maxHeartbeats 2000000 in
theorem c_i_GoodShift {A1 : Option Addr} {c1 : Nat} {A2 : Option Addr} {c2 : Nat} {A3 : Option Addr} {c3 : Nat} {w : World} (p_c : DShift) (h1 : RdS w (Iv 0 w.heap.size) R_Table 3 A1 p_c.Ways.length c1 p_c.Ways) (h2 : RdS w (Iv 0 w.heap.size) (RF e_Int) 1 A2 p_c.At.length c2 p_c.At) (h3 : RdS w (Iv 0 w.heap.size) (RF e_Write) 3 A3 p_c.Store.length c3 p_c.Store) (o4 : ok_Shift p_c) : Cal Tryz.prog 34 #[.agg #[.string (bs (p_c.Name)), .slice A1 p_c.Ways.length c1, .slice A2 p_c.At.length c2, .slice A3 p_c.Store.length c3]] w fun v w' => v = .bool ((i_GoodShift p_c)) ∧ Ex w w' := by
 have hol5 : p_c.Name.length ≤ 1073741824 := o4.1
 have hol6 := o4.2.1.1
 have hol7 := o4.2.2.1.1
 have hol8 := o4.2.2.2.1
 refine Cal.of (vs := [.agg #[.string (bs (p_c.Name)), .slice A1 p_c.Ways.length c1, .slice A2 p_c.At.length c2, .slice A3 p_c.Store.length c3]]) Tryz.func34 rfl Tryz.ntmps34 rfl (CW.seq (CW.region (sd rfl (yl_box (cs := [.string (bs (p_c.Name)), .slice A1 p_c.Ways.length c1, .slice A2 p_c.At.length c2, .slice A3 p_c.Store.length c3]) rfl rfl rfl ?_))))
 intro b9 w10 hs11 hz12 hB13 hE14
 refine sd rfl (yl_assign rfl rfl (SeqR.done (tn (CW.seq (CW.seq (CW.region (sd rfl (yl_fieldAddr Tryz.fd40_1 rfl rfl (sd rfl (yl_load1 Tryz.ty37 rfl rfl ((hB13.cell 1).trans rfl) (sd rfl (yl_len Tryz.un37 rfl rfl ?_))))))))))))
 refine sd rfl (yl_call Tryz.en63 rfl (opvs_cons rfl (opvs_cons rfl (opvs_cons rfl opvs_nil))) (Cal.mono (c_i_within (p_c.Ways.length : Int) 1 4) ?_))
 rintro v16 w15 ⟨rfl, hE17⟩
 have hE17z := Ex.size hE17
 refine sd rfl (yl_not rfl rfl (sd rfl (yl_move rfl rfl (bcase (i_within (p_c.Ways.length : Int) 1 4) (fun hb18 => ?_) (fun hb18 => ?_)))))
 ·have hb18p := f_within hb18
  refine sy rfl rfl (not_t hb18) (yl_fieldAddr Tryz.fd40_2 rfl rfl ?_)
  have q19 := Box.ex hB13 hE17
  refine sy rfl rfl (not_t hb18) (yl_load1 Tryz.ty23 rfl rfl ((q19.cell 2).trans rfl) (sy rfl rfl (not_t hb18) (yl_len Tryz.un23 rfl rfl (sy rfl rfl (not_t hb18) (yl_call Tryz.en63 rfl (opvs_cons rfl (opvs_cons rfl (opvs_cons rfl opvs_nil))) (Cal.mono (c_i_within (p_c.At.length : Int) 1 3) ?_))))))
  rintro v21 w20 ⟨rfl, hE22⟩
  have hE22z := Ex.size hE22
  refine sy rfl rfl (not_t hb18) (yl_not rfl rfl (sd rfl (yl_pick_f rfl rfl (not_t hb18) rfl (sd rfl (yl_move rfl rfl (bcase (i_within (p_c.At.length : Int) 1 3) (fun hb23 => ?_) (fun hb23 => ?_)))))))
  ·have hb23p := f_within hb23
   refine sy rfl rfl (not_t hb23) (yl_fieldAddr Tryz.fd40_3 rfl rfl ?_)
   have q24 := Box.ex q19 hE22
   refine sy rfl rfl (not_t hb23) (yl_load1 Tryz.ty38 rfl rfl ((q24.cell 3).trans rfl) ?_)
   have q27 := RdS.ex good_Write (RdS.ex good_Write (RdS.ex good_Write h3 hE14) hE17) hE22
   refine sy rfl rfl (not_t hb23) (yl_call Tryz.en64 rfl (opvs_cons rfl opvs_nil) (Cal.mono (c_i_isRows p_c.Store (RdS.up q27 good_Write) o4.2.2.2) ?_))
   rintro v29 w28 ⟨rfl, hE30⟩
   have hE30z := Ex.size hE30
   refine sy rfl rfl (not_t hb23) (yl_not rfl rfl (sd rfl (yl_pick_f rfl rfl (not_t hb23) rfl (SeqR.done (tn (bcase (i_isRows p_c.Store) (fun hb31 => ?_) (fun hb31 => ?_)))))))
   ·refine CW.cond_f rfl (not_t hb31) (CW.skip (tn (CW.seq (CW.seq (CW.region (sd rfl (yl_fieldAddr Tryz.fd40_1 rfl rfl ?_)))))))
    have q32 := Box.ex q24 hE30
    refine sd rfl (yl_load1 Tryz.ty37 rfl rfl ((q32.cell 1).trans rfl) (sd rfl (yl_makeFunc rfl (opvs_cons rfl opvs_nil) ?_)))
    have q36 := RdS.ex good_Table (RdS.ex good_Table (RdS.ex good_Table (RdS.ex good_Table h1 hE14) hE17) hE22) hE30
    have q40 := RdS.ex good_Int (RdS.ex good_Int (RdS.ex good_Int (RdS.ex good_Int h2 hE14) hE17) hE22) hE30
    have q41 := RdS.ex good_Write q27 hE30
    refine sd rfl (yl_call Tryz.en65 rfl (opvs_cons rfl (opvs_cons rfl opvs_nil)) (Cal.mono (c_g_slices_ContainsFunc_Table p_c.Ways (fun y0 => i_GoodShift_c1 y0 p_c) (RdS.up q36 good_Table) Tryz.en66 (fun _ y0 => fun hE hm0 hv0 hv1 ov0 => c_i_GoodShift_c1 y0 p_c hv0 hv1 (RdS.up (RdS.ex good_Table q36 hE) good_Table) (RdS.up (RdS.ex good_Int q40 hE) good_Int) (RdS.up (RdS.ex good_Write q41 hE) good_Write) (Box.ex q32 hE) ov0 o4) o4.2.1) ?_))
    rintro v43 w42 ⟨rfl, hE44⟩
    have hE44z := Ex.size hE44
    refine SeqR.done (tn (bcase (g_slices_ContainsFunc_Table p_c.Ways (fun y0 => i_GoodShift_c1 y0 p_c)) (fun hb45 => ?_) (fun hb45 => ?_)))
    ·refine CW.cond_t rfl hb45 (CW.seq (CW.region (sd rfl (yl_assign rfl rfl (SeqR.done (tn (CW.ret (tr (rr rfl (.cons rfl .nil) ?_)))))))))
     have hM46 : (i_GoodShift p_c) = (false) := by simp only [i_GoodShift, hb18, hb23, hb31, hb45, cond_true, cond_false, loopE_done, loopE_ret]
     rw [hM46]
     exact ⟨rfl, (Ex.trans (Ex.trans (Ex.trans (Ex.trans (Ex.trans (Ex.refl w) hE14) hE17) hE22) hE30) hE44)⟩
    ·have hb45p := gs_facts (by omega) hb45
     refine CW.cond_f rfl hb45 (CW.skip (tn (CW.seq (CW.seq (CW.region (sd rfl (yl_fieldAddr Tryz.fd40_2 rfl rfl ?_)))))))
     have q52 := Box.ex q32 hE44
     refine sd rfl (yl_load1 Tryz.ty23 rfl rfl ((q52.cell 2).trans rfl) (sd rfl (yl_makeFunc rfl (opvs_cons rfl opvs_nil) ?_)))
     have q53 := RdS.ex good_Int q40 hE44
     have q54 := RdS.ex good_Table q36 hE44
     have q55 := RdS.ex good_Write q41 hE44
     refine sd rfl (yl_call Tryz.en68 rfl (opvs_cons rfl (opvs_cons rfl opvs_nil)) (Cal.mono (c_g_slices_ContainsFunc_int p_c.At (fun y0 => i_GoodShift_c2 y0 p_c) (RdS.up q53 good_Int) Tryz.en69 (fun _ y0 => fun hE hm0 => c_i_GoodShift_c2 y0 p_c (RdS.up (RdS.ex good_Table q54 hE) good_Table) (RdS.up (RdS.ex good_Int q53 hE) good_Int) (RdS.up (RdS.ex good_Write q55 hE) good_Write) (Box.ex q52 hE) o4) o4.2.2.1) ?_))
     rintro v57 w56 ⟨rfl, hE58⟩
     have hE58z := Ex.size hE58
     refine SeqR.done (tn (bcase (g_slices_ContainsFunc_int p_c.At (fun y0 => i_GoodShift_c2 y0 p_c)) (fun hb59 => ?_) (fun hb59 => ?_)))
     ·refine CW.cond_t rfl hb59 (CW.seq (CW.region (sd rfl (yl_assign rfl rfl (SeqR.done (tn (CW.ret (tr (rr rfl (.cons rfl .nil) ?_)))))))))
      have hM60 : (i_GoodShift p_c) = (false) := by simp only [i_GoodShift, hb18, hb23, hb31, hb45, hb59, cond_true, cond_false, loopE_done, loopE_ret]
      rw [hM60]
      exact ⟨rfl, (Ex.trans (Ex.trans (Ex.trans (Ex.trans (Ex.trans (Ex.trans (Ex.refl w) hE14) hE17) hE22) hE30) hE44) hE58)⟩
     ·refine CW.cond_f rfl hb59 (CW.skip (tn (CW.seq ?_)))
      have q67 := Box.ex q52 hE58
      have q68 := RdS.ex good_Table q54 hE58
      obtain ⟨eb69, eo69, ec69, eA69, eS69, ebl69, el69, eR69, eC69⟩ := RdS.atD q68 d_Table (i := 0) (by first | omega | assumption)
      obtain ⟨A70, c70, A71, c71, rfl, h70, h71⟩ := eR69
      have eC69 : Cells w56 eb69 (eo69 + 0 * 3) [.string (bs ((p_c.Ways.getD 0 d_Table).Name)), .slice A70 (((p_c.Ways.getD 0 d_Table).Cols).length) c70, .slice A71 (((p_c.Ways.getD 0 d_Table).Idxs).length) c71] := eC69
      obtain ⟨eb72, eo72, ec72, eA72, eS72, ebl72, el72, eR72, eC72⟩ := RdS.atD q68 d_Table (i := (IntKind.wrap .i64 ((p_c.Ways.length : Int) - 1)).toNat) (by first | omega | assumption | (simp only [IntKind.wrap_i64] at *; omega))
      obtain ⟨A73, c73, A74, c74, rfl, h73, h74⟩ := eR72
      have eC72 : Cells w56 eb72 (eo72 + ((IntKind.wrap .i64 ((p_c.Ways.length : Int) - 1)).toNat) * 3) [.string (bs ((p_c.Ways.getD ((IntKind.wrap .i64 ((p_c.Ways.length : Int) - 1)).toNat) d_Table).Name)), .slice A73 (((p_c.Ways.getD ((IntKind.wrap .i64 ((p_c.Ways.length : Int) - 1)).toNat) d_Table).Cols).length) c73, .slice A74 (((p_c.Ways.getD ((IntKind.wrap .i64 ((p_c.Ways.length : Int) - 1)).toNat) d_Table).Idxs).length) c74] := eC72
      refine CW.drawsI 21 (vgetI [DetI (.pointer (some ⟨b9, 0 + 1, none⟩)), DetI (.slice A1 p_c.Ways.length c1), DetI (.pointer (some ⟨b9, 0 + 1, none⟩)), DetI (.slice A1 p_c.Ways.length c1), DetI (.pointer (some ⟨eb69, eo69 + 0 * 3, none⟩)), DetI (.agg #[.string (bs ((p_c.Ways.getD 0 d_Table).Name)), .slice A70 (((p_c.Ways.getD 0 d_Table).Cols).length) c70, .slice A71 (((p_c.Ways.getD 0 d_Table).Idxs).length) c71]), DetI (.pointer (some ⟨b9, 0 + 0, none⟩)), DetI (.string (bs (p_c.Name))), DetI (.agg #[.string (bs (p_c.Name)), .slice A1 p_c.Ways.length c1, .slice A2 p_c.At.length c2, .slice A3 p_c.Store.length c3]), DetI (.pointer (some ⟨b9, 0 + 1, none⟩)), DetI (.slice A1 p_c.Ways.length c1), DetI (.pointer (some ⟨b9, 0 + 1, none⟩)), DetI (.slice A1 p_c.Ways.length c1), DetI (.int .i64 ((p_c.Ways.length : Int))), DetI (.int .i64 (IntKind.wrap .i64 ((p_c.Ways.length : Int) - 1))), DetI (.pointer (some ⟨eb72, eo72 + ((IntKind.wrap .i64 ((p_c.Ways.length : Int) - 1)).toNat) * 3, none⟩)), DetI (.agg #[.string (bs ((p_c.Ways.getD ((IntKind.wrap .i64 ((p_c.Ways.length : Int) - 1)).toNat) d_Table).Name)), .slice A73 (((p_c.Ways.getD ((IntKind.wrap .i64 ((p_c.Ways.length : Int) - 1)).toNat) d_Table).Cols).length) c73, .slice A74 (((p_c.Ways.getD ((IntKind.wrap .i64 ((p_c.Ways.length : Int) - 1)).toNat) d_Table).Idxs).length) c74]), DetI (.int .i64 ((i_Shift_stageOf p_c (p_c.Ways.getD ((IntKind.wrap .i64 ((p_c.Ways.length : Int) - 1)).toNat) d_Table)))), fun lo hi v wq => ∃ A79 c79 lo79 hi79, v = .slice A79 ((i_Table_wayTo (p_c.Ways.getD 0 d_Table) p_c.Name (i_Shift_stageOf p_c (p_c.Ways.getD ((IntKind.wrap .i64 ((p_c.Ways.length : Int) - 1)).toNat) d_Table))).length) c79 ∧ OwnL wq lo79 hi79 95 3 R_Table A79 ((i_Table_wayTo (p_c.Ways.getD 0 d_Table) p_c.Name (i_Shift_stageOf p_c (p_c.Ways.getD ((IntKind.wrap .i64 ((p_c.Ways.length : Int) - 1)).toNat) d_Table))).length) c79 (i_Table_wayTo (p_c.Ways.getD 0 d_Table) p_c.Name (i_Shift_stageOf p_c (p_c.Ways.getD ((IntKind.wrap .i64 ((p_c.Ways.length : Int) - 1)).toNat) d_Table))) ∧ (okL ok_Table) (i_Table_wayTo (p_c.Ways.getD 0 d_Table) p_c.Name (i_Shift_stageOf p_c (p_c.Ways.getD ((IntKind.wrap .i64 ((p_c.Ways.length : Int) - 1)).toNat) d_Table))) ∧ (lo ≤ lo79 ∧ lo79 ≤ hi79 ∧ hi79 ≤ hi), DetI (.bool ((g_slices_EqualFunc_Table p_c.Ways (i_Table_wayTo (p_c.Ways.getD 0 d_Table) p_c.Name (i_Shift_stageOf p_c (p_c.Ways.getD ((IntKind.wrap .i64 ((p_c.Ways.length : Int) - 1)).toNat) d_Table))) (fun y0 y1 => i_sameTable y0 y1)))), DetI (.bool ((g_slices_EqualFunc_Table p_c.Ways (i_Table_wayTo (p_c.Ways.getD 0 d_Table) p_c.Name (i_Shift_stageOf p_c (p_c.Ways.getD ((IntKind.wrap .i64 ((p_c.Ways.length : Int) - 1)).toNat) d_Table))) (fun y0 y1 => i_sameTable y0 y1))))]) Tryz.follows rfl rfl rfl rfl rfl rfl (vgetI_stable ⟨StableI.det _, StableI.det _, StableI.det _, StableI.det _, StableI.det _, StableI.det _, StableI.det _, StableI.det _, StableI.det _, StableI.det _, StableI.det _, StableI.det _, StableI.det _, StableI.det _, StableI.det _, StableI.det _, StableI.det _, StableI.det _, (fun _ _ _ _ _ ⟨A79, c79, lo79, hi79, hv, h79, ho80, hr0⟩ e => ⟨A79, c79, lo79, hi79, hv, OwnL.ex good_Table h79 e, ho80, hr0⟩), StableI.det _, StableI.det _, trivial⟩) ⟨?_, ?_, ?_, ?_, ?_, ?_, ?_, ?_, ?_, ?_, ?_, ?_, ?_, ?_, ?_, ?_, ?_, ?_, ?_, ?_, ?_, trivial⟩ ?_
      ·exact fun _ _ h => os rfl ((yl_fieldAddr Tryz.fd40_1 rfl (h.old 1 _ rfl rfl) kI))
      ·exact fun _ _ h => os rfl ((yl_load1 Tryz.ty37 rfl (h.dt 0 29 rfl rfl rfl) (((Box.ex q67 h.ex).cell 1).trans rfl) kI))
      ·exact fun _ _ h => os rfl ((yl_fieldAddr Tryz.fd40_1 rfl (h.old 1 _ rfl rfl) kI))
      ·exact fun _ _ h => os rfl ((yl_load1 Tryz.ty37 rfl (h.dt 2 31 rfl rfl rfl) (((Box.ex q67 h.ex).cell 1).trans rfl) kI))
      ·intro L104 w105 hi106
       have hE107 := hi106.ex
       have hE107z := Ex.size hE107
       exact os rfl ((yl_indexAddrN Tryz.un37 Tryz.ty95 rfl (hi106.dt 3 32 rfl rfl rfl) rfl eA69 (by first | omega | assumption | (simp only [IntKind.wrap_i64] at *; omega)) kI))
      ·exact fun _ _ h => os rfl ((yl_loadN (cs := [.string (bs ((p_c.Ways.getD 0 d_Table).Name)), .slice A70 (((p_c.Ways.getD 0 d_Table).Cols).length) c70, .slice A71 (((p_c.Ways.getD 0 d_Table).Idxs).length) c71]) Tryz.ty95 rfl (h.dt 4 33 rfl rfl rfl) (Cells.ex eC69 h.ex) rfl kI))
      ·exact fun _ _ h => os rfl ((yl_fieldAddr Tryz.fd40_0 rfl (h.old 1 _ rfl rfl) kI))
      ·exact fun _ _ h => os rfl ((yl_load1 Tryz.ty9 rfl (h.dt 6 35 rfl rfl rfl) (((Box.ex q67 h.ex).cell 0).trans rfl) kI))
      ·exact fun _ _ h => os rfl ((yl_loadN (cs := [.string (bs (p_c.Name)), .slice A1 p_c.Ways.length c1, .slice A2 p_c.At.length c2, .slice A3 p_c.Store.length c3]) Tryz.ty40 rfl (h.old 1 _ rfl rfl) ((Box.ex q67 h.ex).cells (n := 4) rfl) rfl kI))
      ·exact fun _ _ h => os rfl ((yl_fieldAddr Tryz.fd40_1 rfl (h.old 1 _ rfl rfl) kI))
      ·exact fun _ _ h => os rfl ((yl_load1 Tryz.ty37 rfl (h.dt 9 38 rfl rfl rfl) (((Box.ex q67 h.ex).cell 1).trans rfl) kI))
      ·exact fun _ _ h => os rfl ((yl_fieldAddr Tryz.fd40_1 rfl (h.old 1 _ rfl rfl) kI))
      ·exact fun _ _ h => os rfl ((yl_load1 Tryz.ty37 rfl (h.dt 11 40 rfl rfl rfl) (((Box.ex q67 h.ex).cell 1).trans rfl) kI))
      ·exact fun _ _ h => os rfl ((yl_len Tryz.un37 rfl (h.dt 12 41 rfl rfl rfl) kI))
      ·exact fun _ _ h => os rfl ((yl_sub rfl (h.dt 13 42 rfl rfl rfl) rfl kI))
      ·intro L164 w165 hi166
       have hE167 := hi166.ex
       have hE167z := Ex.size hE167
       exact os rfl ((yl_indexAddr Tryz.un37 Tryz.ty95 rfl (hi166.dt 10 39 rfl rfl rfl) (hi166.dt 14 43 rfl rfl rfl) eA72 (by first | omega | assumption | (simp only [IntKind.wrap_i64] at *; omega)) (by first | omega | assumption | (simp only [IntKind.wrap_i64] at *; omega)) kI))
      ·exact fun _ _ h => os rfl ((yl_loadN (cs := [.string (bs ((p_c.Ways.getD ((IntKind.wrap .i64 ((p_c.Ways.length : Int) - 1)).toNat) d_Table).Name)), .slice A73 (((p_c.Ways.getD ((IntKind.wrap .i64 ((p_c.Ways.length : Int) - 1)).toNat) d_Table).Cols).length) c73, .slice A74 (((p_c.Ways.getD ((IntKind.wrap .i64 ((p_c.Ways.length : Int) - 1)).toNat) d_Table).Idxs).length) c74]) Tryz.ty95 rfl (h.dt 15 44 rfl rfl rfl) (Cells.ex eC72 h.ex) rfl kI))
      ·intro L176 w177 hi178
       have hE179 := hi178.ex
       have hE179z := Ex.size hE179
       refine OpR.op' rfl (yl_call Tryz.en72 rfl (opvs_cons (hi178.dt 8 37 rfl rfl rfl) (opvs_cons (hi178.dt 16 45 rfl rfl rfl) opvs_nil)) (Cal.mono (c_i_Shift_stageOf p_c (p_c.Ways.getD ((IntKind.wrap .i64 ((p_c.Ways.length : Int) - 1)).toNat) d_Table) (RdS.up (RdS.ex good_Table q68 hE179) good_Table) (RdS.up (RdS.ex good_Int (RdS.ex good_Int q53 hE58) hE179) good_Int) (RdS.up (RdS.ex good_Write (RdS.ex good_Write q55 hE58) hE179) good_Write) (RdS.up (RdS.ex good_Str h73 hE179) good_Str) (RdS.up (RdS.ex good_Idx h74 hE179) good_Idx) o4 (okL.getD o4.2.1 ok_d_Table _) (by first | omega | assumption | (simp only [IntKind.wrap_i64] at *; omega))) ?_))
       rintro v188 w187 ⟨rfl, hE189⟩
       exact ⟨rfl, hE189⟩
      ·intro L190 w191 hi192
       have hE193 := hi192.ex
       have hE193z := Ex.size hE193
       refine OpR.op' rfl (yl_call Tryz.en71 rfl (opvs_cons (hi192.dt 5 34 rfl rfl rfl) (opvs_cons (hi192.dt 7 36 rfl rfl rfl) (opvs_cons (hi192.dt 17 46 rfl rfl rfl) opvs_nil))) (Cal.mono (c_i_Table_wayTo (p_c.Ways.getD 0 d_Table) p_c.Name (i_Shift_stageOf p_c (p_c.Ways.getD ((IntKind.wrap .i64 ((p_c.Ways.length : Int) - 1)).toNat) d_Table)) (RdS.up (RdS.ex good_Str h70 hE193) good_Str) (RdS.up (RdS.ex good_Idx h71 hE193) good_Idx) (okL.getD o4.2.1 ok_d_Table _) o4.1 (by first | omega | assumption | (simp only [IntKind.wrap_i64] at *; omega)) (by first | omega | assumption | (simp only [IntKind.wrap_i64] at *; omega)) (by first | omega | assumption | (simp only [IntKind.wrap_i64] at *; omega))) ?_))
       rintro v202 w199 ⟨A200, c200, lo200, hi200, rfl, h200, ho201, hrn204, hE203⟩
       exact ⟨⟨A200, c200, lo200, hi200, rfl, h200, ho201, hrn204⟩, hE203⟩
      ·intro L205 w206 hi207
       have hE208 := hi207.ex
       obtain ⟨lo211, hh212, _, hx210, hr213, hr214, hr215, A79_216, c79_217, lo79_218, hi79_219, rfl, h220, h221, hrn222⟩ := hi207.dep 18 47 rfl rfl
       refine OpR.op' rfl (yl_call Tryz.en70 rfl (opvs_cons (hi207.dt 1 30 rfl rfl rfl) (opvs_cons hx210 (opvs_cons rfl opvs_nil))) (Cal.mono (c_g_slices_EqualFunc_Table p_c.Ways (i_Table_wayTo (p_c.Ways.getD 0 d_Table) p_c.Name (i_Shift_stageOf p_c (p_c.Ways.getD ((IntKind.wrap .i64 ((p_c.Ways.length : Int) - 1)).toNat) d_Table))) (fun y0 y1 => i_sameTable y0 y1) (RdS.up (RdS.ex good_Table q68 hE208) good_Table) (RdS.up (OwnL.rd good_Table h220) good_Table) Tryz.en73 (fun _ y0 => fun y1 => fun hE hm0 hm1 hv0 hv1 hv2 hv3 ov0 ov1 => c_i_sameTable y0 y1 hv0 hv1 hv2 hv3 ov0 ov1) o4.2.1 h221) ?_))
       rintro v226 w225 ⟨rfl, hE227⟩
       exact ⟨rfl, hE227⟩
      ·exact fun _ _ h => os rfl ((yl_assign rfl (h.dt 19 48 rfl rfl rfl) kI))
      ·intro fl236 fh237 L233 w234 hp235
       have hE238 := hp235.ex
       have hE238z := Ex.size hE238
       have hr240 := hp235.rng 18 rfl
       obtain ⟨_, hx239, A79_241, c79_242, lo79_243, hi79_244, rfl, h245, h246, hrn247⟩ := hp235.new 18 47 rfl rfl
       refine SeqR.done (tn (CW.sub (Sub.cons (d := 2) (hp235.nt 20 2 rfl rfl rfl) (Sub.nil _)) (CW.ret (rr rfl (.cons rfl .nil) ?_))))
       have hM249 : (i_GoodShift p_c) = ((g_slices_EqualFunc_Table p_c.Ways (i_Table_wayTo (p_c.Ways.getD 0 d_Table) p_c.Name (i_Shift_stageOf p_c (p_c.Ways.getD ((IntKind.wrap .i64 ((p_c.Ways.length : Int) - 1)).toNat) d_Table))) (fun y0 y1 => i_sameTable y0 y1))) := by simp only [i_GoodShift, hb18, hb23, hb31, hb45, hb59, cond_true, cond_false, loopE_done, loopE_ret]
       rw [hM249]
       exact ⟨rfl, (Ex.trans (Ex.trans (Ex.trans (Ex.trans (Ex.trans (Ex.trans (Ex.trans (Ex.refl w) hE14) hE17) hE22) hE30) hE44) hE58) hE238)⟩
   ·refine CW.cond_t rfl (not_f hb31) (CW.seq (CW.region (sd rfl (yl_assign rfl rfl (SeqR.done (tn (CW.ret (tr (rr rfl (.cons rfl .nil) ?_)))))))))
    have hM257 : (i_GoodShift p_c) = (false) := by simp only [i_GoodShift, hb18, hb23, hb31, cond_true, cond_false, loopE_done, loopE_ret]
    rw [hM257]
    exact ⟨rfl, (Ex.trans (Ex.trans (Ex.trans (Ex.trans (Ex.refl w) hE14) hE17) hE22) hE30)⟩
  ·refine sz rfl rfl (not_f hb23) (sz rfl rfl (not_f hb23) (sz rfl rfl (not_f hb23) (sz rfl rfl (not_f hb23) (sd rfl (yl_pick_t rfl rfl (not_f hb23) rfl (SeqR.done (tn (CW.cond_t rfl rfl (CW.seq ?_)))))))))
   refine CW.region (sd rfl (yl_assign rfl rfl (SeqR.done (tn (CW.ret (tr (rr rfl (.cons rfl .nil) ?_)))))))
   have hM262 : (i_GoodShift p_c) = (false) := by simp only [i_GoodShift, hb18, hb23, cond_true, cond_false, loopE_done, loopE_ret]
   rw [hM262]
   exact ⟨rfl, (Ex.trans (Ex.trans (Ex.trans (Ex.refl w) hE14) hE17) hE22)⟩
 ·refine sz rfl rfl (not_f hb18) (sz rfl rfl (not_f hb18) (sz rfl rfl (not_f hb18) (sz rfl rfl (not_f hb18) (sz rfl rfl (not_f hb18) (sd rfl (yl_pick_t rfl rfl (not_f hb18) rfl (sd rfl (yl_move rfl rfl (sz rfl rfl rfl (sz rfl rfl rfl ?_))))))))))
  refine sz rfl rfl rfl (sz rfl rfl rfl (sd rfl (yl_pick_t rfl rfl rfl rfl (SeqR.done (tn (CW.cond_t rfl rfl (CW.seq (CW.region (sd rfl (yl_assign rfl rfl ?_))))))))))
  refine SeqR.done (tn (CW.ret (tr (rr rfl (.cons rfl .nil) ?_))))
  have hM266 : (i_GoodShift p_c) = (false) := by simp only [i_GoodShift, hb18, cond_true, cond_false, loopE_done, loopE_ret]
  rw [hM266]
  exact ⟨rfl, (Ex.trans (Ex.trans (Ex.refl w) hE14) hE17)⟩
set_option maxRecDepth 100000 in
set_option maxHeartbeats 2000000 in
theorem c_i_GoodFill {w : World} (p_f : DFill) (o1 : ok_Fill p_f) : Cal Tryz.prog 82 #[.agg #[.string (bs (p_f.Last)), .bool (p_f.Over)]] w fun v w' => v = .bool ((i_GoodFill p_f)) ∧ Ex w w' := by
 have hol2 : p_f.Last.length ≤ 1073741824 := o1
 refine Cal.of (vs := [.agg #[.string (bs (p_f.Last)), .bool (p_f.Over)]]) Tryz.func82 rfl Tryz.ntmps82 rfl (CW.seq (CW.region (sd rfl (yl_box (cs := [.string (bs (p_f.Last)), .bool (p_f.Over)]) rfl rfl rfl ?_))))
 intro b3 w4 hs5 hz6 hB7 hE8
 refine sd rfl (yl_assign rfl rfl (SeqR.done (tn (CW.seq (CW.region (sd rfl (yl_fieldAddr Tryz.fd60_0 rfl rfl (sd rfl (yl_load1 Tryz.ty9 rfl rfl ((hB7.cell 0).trans rfl) (sd rfl (yl_seql (a := p_f.Last) (b := ([] : Str)) rfl rfl rfl (sd rfl (yl_move rfl rfl ?_)))))))))))))
 refine bcase (p_f.Last == ([] : Str)) (fun hb9 => ?_) (fun hb9 => ?_)
 ·refine sz rfl rfl hb9 (sz rfl rfl hb9 (sz rfl rfl hb9 (sd rfl (yl_pick_t rfl rfl hb9 rfl (sd rfl (yl_assign rfl rfl (SeqR.done (tn (CW.ret (rr rfl (.cons rfl .nil) ?_))))))))))
  have hM10 : (i_GoodFill p_f) = (true) := by simp only [i_GoodFill, hb9, cond_true, cond_false, loopE_done, loopE_ret]
  rw [hM10]
  exact ⟨rfl, (Ex.trans (Ex.refl w) hE8)⟩
 ·refine sy rfl rfl hb9 (yl_fieldAddr Tryz.fd60_0 rfl rfl (sy rfl rfl hb9 (yl_load1 Tryz.ty9 rfl rfl ((hB7.cell 0).trans rfl) (sy rfl rfl hb9 (yl_call Tryz.en113 rfl (opvs_cons rfl opvs_nil) (Cal.mono (c_i_GoodKey p_f.Last o1) ?_))))))
  rintro v13 w12 ⟨rfl, hE14⟩
  have hE14z := Ex.size hE14
  refine sd rfl (yl_pick_f rfl rfl hb9 rfl (sd rfl (yl_assign rfl rfl (SeqR.done (tn (CW.ret (rr rfl (.cons rfl .nil) ?_)))))))
  have hM15 : (i_GoodFill p_f) = ((i_GoodKey p_f.Last)) := by simp only [i_GoodFill, hb9, cond_true, cond_false, loopE_done, loopE_ret]
  rw [hM15]
  exact ⟨rfl, (Ex.trans (Ex.trans (Ex.refl w) hE8) hE14)⟩
set_option maxRecDepth 100000 in
set_option maxHeartbeats 2000000 in
theorem c_i_GoodWork {A1 : Option Addr} {c1 : Nat} {A2 : Option Addr} {c2 : Nat} {A3 : Option Addr} {c3 : Nat} {w : World} (p_w : DWork) (h1 : RdS w (Iv 0 w.heap.size) R_Table 3 A1 p_w.Shift.Ways.length c1 p_w.Shift.Ways) (h2 : RdS w (Iv 0 w.heap.size) (RF e_Int) 1 A2 p_w.Shift.At.length c2 p_w.Shift.At) (h3 : RdS w (Iv 0 w.heap.size) (RF e_Write) 3 A3 p_w.Shift.Store.length c3 p_w.Shift.Store) (o4 : ok_Work p_w) : Cal Tryz.prog 44 #[.agg #[.string (bs (p_w.Shift.Name)), .slice A1 p_w.Shift.Ways.length c1, .slice A2 p_w.Shift.At.length c2, .slice A3 p_w.Shift.Store.length c3, .string (bs (p_w.Up.Last)), .bool (p_w.Up.Over), .string (bs (p_w.Down.Last)), .bool (p_w.Down.Over)]] w fun v w' => v = .bool ((i_GoodWork p_w)) ∧ Ex w w' := by
 have hol5 : p_w.Shift.Name.length ≤ 1073741824 := o4.1.1
 have hol6 := o4.1.2.1.1
 have hol7 := o4.1.2.2.1.1
 have hol8 := o4.1.2.2.2.1
 have hol9 : p_w.Up.Last.length ≤ 1073741824 := o4.2.1
 have hol10 : p_w.Down.Last.length ≤ 1073741824 := o4.2.2
 refine Cal.of (vs := [.agg #[.string (bs (p_w.Shift.Name)), .slice A1 p_w.Shift.Ways.length c1, .slice A2 p_w.Shift.At.length c2, .slice A3 p_w.Shift.Store.length c3, .string (bs (p_w.Up.Last)), .bool (p_w.Up.Over), .string (bs (p_w.Down.Last)), .bool (p_w.Down.Over)]]) Tryz.func44 rfl Tryz.ntmps44 rfl (CW.seq (CW.region (sd rfl (yl_box (cs := [.string (bs (p_w.Shift.Name)), .slice A1 p_w.Shift.Ways.length c1, .slice A2 p_w.Shift.At.length c2, .slice A3 p_w.Shift.Store.length c3, .string (bs (p_w.Up.Last)), .bool (p_w.Up.Over), .string (bs (p_w.Down.Last)), .bool (p_w.Down.Over)]) rfl rfl rfl ?_))))
 intro b11 w12 hs13 hz14 hB15 hE16
 refine sd rfl (yl_assign rfl rfl (SeqR.done (tn (CW.seq (CW.region (sd rfl (yl_fieldAddr Tryz.fd62_0 rfl rfl (sd rfl (yl_loadN (cs := [.string (bs (p_w.Shift.Name)), .slice A1 p_w.Shift.Ways.length c1, .slice A2 p_w.Shift.At.length c2, .slice A3 p_w.Shift.Store.length c3]) Tryz.ty40 rfl rfl (hB15.cells (n := 4) rfl) rfl (sd rfl (yl_call Tryz.en34 rfl (opvs_cons rfl opvs_nil) (Cal.mono (c_i_GoodShift p_w.Shift (RdS.up (RdS.ex good_Table h1 hE16) good_Table) (RdS.up (RdS.ex good_Int h2 hE16) good_Int) (RdS.up (RdS.ex good_Write h3 hE16) good_Write) o4.1) ?_))))))))))))
 rintro v21 w20 ⟨rfl, hE22⟩
 have hE22z := Ex.size hE22
 refine sd rfl (yl_move rfl rfl (bcase (i_GoodShift p_w.Shift) (fun hb23 => ?_) (fun hb23 => ?_)))
 ·obtain ⟨hb23p0, hb23p1⟩ := f_i_GoodShift hb23
  refine sy rfl rfl hb23 (yl_fieldAddr Tryz.fd62_1 rfl rfl ?_)
  have q24 := Box.ex hB15 hE22
  refine sy rfl rfl hb23 (yl_loadN (cs := [.string (bs (p_w.Up.Last)), .bool (p_w.Up.Over)]) Tryz.ty60 rfl rfl (q24.cells (n := 2) rfl) rfl (sy rfl rfl hb23 (yl_call Tryz.en82 rfl (opvs_cons rfl opvs_nil) (Cal.mono (c_i_GoodFill p_w.Up o4.2.1) ?_))))
  rintro v26 w25 ⟨rfl, hE27⟩
  have hE27z := Ex.size hE27
  refine sd rfl (yl_pick_t rfl rfl hb23 rfl (sd rfl (yl_move rfl rfl (bcase (i_GoodFill p_w.Up) (fun hb28 => ?_) (fun hb28 => ?_)))))
  ·refine sy rfl rfl hb28 (yl_fieldAddr Tryz.fd62_2 rfl rfl (sy rfl rfl hb28 (yl_loadN (cs := [.string (bs (p_w.Down.Last)), .bool (p_w.Down.Over)]) Tryz.ty60 rfl rfl ((Box.ex q24 hE27).cells (n := 2) rfl) rfl (sy rfl rfl hb28 (yl_call Tryz.en82 rfl (opvs_cons rfl opvs_nil) (Cal.mono (c_i_GoodFill p_w.Down o4.2.2) ?_))))))
   rintro v31 w30 ⟨rfl, hE32⟩
   have hE32z := Ex.size hE32
   refine sd rfl (yl_pick_t rfl rfl hb28 rfl (sd rfl (yl_assign rfl rfl (SeqR.done (tn (CW.ret (rr rfl (.cons rfl .nil) ?_)))))))
   have hM33 : (i_GoodWork p_w) = ((i_GoodFill p_w.Down)) := by simp only [i_GoodWork, hb23, hb28, cond_true, cond_false, loopE_done, loopE_ret]
   rw [hM33]
   exact ⟨rfl, (Ex.trans (Ex.trans (Ex.trans (Ex.trans (Ex.refl w) hE16) hE22) hE27) hE32)⟩
  ·refine sz rfl rfl hb28 (sz rfl rfl hb28 (sz rfl rfl hb28 (sd rfl (yl_pick_f rfl rfl hb28 rfl (sd rfl (yl_assign rfl rfl (SeqR.done (tn (CW.ret (rr rfl (.cons rfl .nil) ?_))))))))))
   have hM38 : (i_GoodWork p_w) = (false) := by simp only [i_GoodWork, hb23, hb28, cond_true, cond_false, loopE_done, loopE_ret]
   rw [hM38]
   exact ⟨rfl, (Ex.trans (Ex.trans (Ex.trans (Ex.refl w) hE16) hE22) hE27)⟩
 ·refine sz rfl rfl hb23 (sz rfl rfl hb23 (sz rfl rfl hb23 (sd rfl (yl_pick_f rfl rfl hb23 rfl (sd rfl (yl_move rfl rfl (sz rfl rfl rfl (sz rfl rfl rfl (sz rfl rfl rfl (sd rfl (yl_pick_f rfl rfl rfl rfl ?_)))))))))))
  refine sd rfl (yl_assign rfl rfl (SeqR.done (tn (CW.ret (rr rfl (.cons rfl .nil) ?_)))))
  have hM42 : (i_GoodWork p_w) = (false) := by simp only [i_GoodWork, hb23, cond_true, cond_false, loopE_done, loopE_ret]
  rw [hM42]
  exact ⟨rfl, (Ex.trans (Ex.trans (Ex.refl w) hE16) hE22)⟩
set_option maxRecDepth 100000 in
set_option maxHeartbeats 2000000 in
theorem c_i_Shift_table {A1 : Option Addr} {c1 : Nat} {A2 : Option Addr} {c2 : Nat} {A3 : Option Addr} {c3 : Nat} {w : World} (p_c : DShift) (p_server : Int) (h1 : RdS w (Iv 0 w.heap.size) R_Table 3 A1 p_c.Ways.length c1 p_c.Ways) (h2 : RdS w (Iv 0 w.heap.size) (RF e_Int) 1 A2 p_c.At.length c2 p_c.At) (h3 : RdS w (Iv 0 w.heap.size) (RF e_Write) 3 A3 p_c.Store.length c3 p_c.Store) (o4 : ok_Shift p_c) (pre0 : (0 ≤ p_server ∧ p_server < (p_c.At.length : Int))) (pre1 : (0 ≤ p_c.At.getD (p_server).toNat d_Int ∧ p_c.At.getD (p_server).toNat d_Int < (p_c.Ways.length : Int))) : Cal Tryz.prog 74 #[.agg #[.string (bs (p_c.Name)), .slice A1 p_c.Ways.length c1, .slice A2 p_c.At.length c2, .slice A3 p_c.Store.length c3], .int .i64 (p_server)] w fun v w' => ∃ A_1 c_1 A_2 c_2, v = .agg #[.string (bs ((i_Shift_table p_c p_server).Name)), .slice A_1 (((i_Shift_table p_c p_server).Cols).length) c_1, .slice A_2 (((i_Shift_table p_c p_server).Idxs).length) c_2] ∧ RdS w' (Iv 0 w'.heap.size) (RF e_Str) 1 A_1 ((i_Shift_table p_c p_server).Cols).length c_1 ((i_Shift_table p_c p_server).Cols) ∧ RdS w' (Iv 0 w'.heap.size) (RF e_Idx) 3 A_2 ((i_Shift_table p_c p_server).Idxs).length c_2 ((i_Shift_table p_c p_server).Idxs) ∧ ok_Table (i_Shift_table p_c p_server) ∧ Ex w w' := by
 have hol5 : p_c.Name.length ≤ 1073741824 := o4.1
 have hol6 := o4.2.1.1
 have hol7 := o4.2.2.1.1
 have hol8 := o4.2.2.2.1
 refine Cal.of (vs := [.agg #[.string (bs (p_c.Name)), .slice A1 p_c.Ways.length c1, .slice A2 p_c.At.length c2, .slice A3 p_c.Store.length c3], .int .i64 (p_server)]) Tryz.func74 rfl Tryz.ntmps74 rfl (CW.seq (CW.region (sd rfl (yl_box (cs := [.string (bs (p_c.Name)), .slice A1 p_c.Ways.length c1, .slice A2 p_c.At.length c2, .slice A3 p_c.Store.length c3]) rfl rfl rfl ?_))))
 intro b9 w10 hs11 hz12 hB13 hE14
 refine sd rfl (yl_alloc Tryz.ty95 (cs := [.string (bs (([] : Str))), .slice none 0 0, .slice none 0 0]) rfl rfl ?_)
 intro b15 w16 hs17 hz18 hB19 hE20
 refine SeqR.done (tn (CW.seq ?_))
 have q21 := Box.ex hB13 hE20
 obtain ⟨eb24, eo24, ec24, eA24, eS24, ebl24, el24, eR24, eC24⟩ := RdS.atD (RdS.ex good_Int (RdS.ex good_Int h2 hE14) hE20) d_Int (i := (p_server).toNat) (by first | omega | assumption | (simp only [IntKind.wrap_i64] at *; omega))
 obtain rfl := eR24
 have eC24 : Cells w16 eb24 (eo24 + ((p_server).toNat) * 1) [.int .i64 ((p_c.At.getD ((p_server).toNat) d_Int))] := eC24
 refine CW.drawsI 7 (vgetI [DetI (.pointer (some ⟨b9, 0 + 1, none⟩)), DetI (.slice A1 p_c.Ways.length c1), DetI (.pointer (some ⟨b9, 0 + 2, none⟩)), DetI (.slice A2 p_c.At.length c2), DetI (.int .i64 (p_server)), DetI (.pointer (some ⟨eb24, eo24 + ((p_server).toNat) * 1, none⟩)), DetI (.int .i64 ((p_c.At.getD ((p_server).toNat) d_Int)))]) Tryz.follows rfl rfl rfl rfl rfl rfl (vgetI_stable ⟨StableI.det _, StableI.det _, StableI.det _, StableI.det _, StableI.det _, StableI.det _, StableI.det _, trivial⟩) ⟨?_, ?_, ?_, ?_, ?_, ?_, ?_, trivial⟩ ?_
 ·exact fun _ _ h => os rfl ((yl_fieldAddr Tryz.fd40_1 rfl (h.old 2 _ rfl rfl) kI))
 ·exact fun _ _ h => os rfl ((yl_load1 Tryz.ty37 rfl (h.dt 0 5 rfl rfl rfl) (((Box.ex q21 h.ex).cell 1).trans rfl) kI))
 ·exact fun _ _ h => os rfl ((yl_fieldAddr Tryz.fd40_2 rfl (h.old 2 _ rfl rfl) kI))
 ·exact fun _ _ h => os rfl ((yl_load1 Tryz.ty23 rfl (h.dt 2 7 rfl rfl rfl) (((Box.ex q21 h.ex).cell 2).trans rfl) kI))
 ·exact fun _ _ h => os rfl ((yl_move rfl (h.old 1 _ rfl rfl) kI))
 ·intro L52 w53 hi54
  have hE55 := hi54.ex
  have hE55z := Ex.size hE55
  exact os rfl ((yl_indexAddr Tryz.un23 Tryz.ty3 rfl (hi54.dt 3 8 rfl rfl rfl) (hi54.dt 4 9 rfl rfl rfl) eA24 (by first | omega | assumption | (simp only [IntKind.wrap_i64] at *; omega)) (by first | omega | assumption | (simp only [IntKind.wrap_i64] at *; omega)) kI))
 ·exact fun _ _ h => os rfl ((yl_load1 Tryz.ty3 rfl (h.dt 5 10 rfl rfl rfl) ((Cells.ex eC24 h.ex) 0 _ rfl) kI))
 ·intro fl67 fh68 L64 w65 hp66
  have hE69 := hp66.ex
  have hE69z := Ex.size hE69
  have hx70 := hp66.old 4 _ rfl rfl
  obtain ⟨eb76, eo76, ec76, eA76, eS76, ebl76, el76, eR76, eC76⟩ := RdS.atD (RdS.ex good_Table (RdS.ex good_Table (RdS.ex good_Table h1 hE14) hE20) hE69) d_Table (i := ((p_c.At.getD ((p_server).toNat) d_Int)).toNat) (by first | omega | assumption | (simp only [IntKind.wrap_i64] at *; omega))
  obtain ⟨A77, c77, A78, c78, rfl, h77, h78⟩ := eR76
  have eC76 : Cells w65 eb76 (eo76 + (((p_c.At.getD ((p_server).toNat) d_Int)).toNat) * 3) [.string (bs ((p_c.Ways.getD (((p_c.At.getD ((p_server).toNat) d_Int)).toNat) d_Table).Name)), .slice A77 (((p_c.Ways.getD (((p_c.At.getD ((p_server).toNat) d_Int)).toNat) d_Table).Cols).length) c77, .slice A78 (((p_c.Ways.getD (((p_c.At.getD ((p_server).toNat) d_Int)).toNat) d_Table).Idxs).length) c78] := eC76
  refine sd rfl (yl_indexAddr Tryz.un37 Tryz.ty95 rfl (hp66.nt 1 6 rfl rfl rfl) (hp66.nt 6 11 rfl rfl rfl) eA76 (by first | omega | assumption | (simp only [IntKind.wrap_i64] at *; omega)) (by first | omega | assumption | (simp only [IntKind.wrap_i64] at *; omega)) (sd rfl (yl_loadN (cs := [.string (bs ((p_c.Ways.getD (((p_c.At.getD ((p_server).toNat) d_Int)).toNat) d_Table).Name)), .slice A77 (((p_c.Ways.getD (((p_c.At.getD ((p_server).toNat) d_Int)).toNat) d_Table).Cols).length) c77, .slice A78 (((p_c.Ways.getD (((p_c.At.getD ((p_server).toNat) d_Int)).toNat) d_Table).Idxs).length) c78]) Tryz.ty95 rfl rfl eC76 rfl (SeqR.u rfl rfl (yl_store (vs := [.string (bs ((p_c.Ways.getD (((p_c.At.getD ((p_server).toNat) d_Int)).toNat) d_Table).Name)), .slice A77 (((p_c.Ways.getD (((p_c.At.getD ((p_server).toNat) d_Int)).toNat) d_Table).Cols).length) c77, .slice A78 (((p_c.Ways.getD (((p_c.At.getD ((p_server).toNat) d_Int)).toNat) d_Table).Idxs).length) c78]) Tryz.ty95 rfl hx70 rfl rfl rfl rfl (Box.ex hB19 hE69) (Nat.le_of_ble_eq_true rfl) ?_)))))
  intro w80 hB81 hO82
  have hB81 : Box w80 b15 95 [.string (bs ((p_c.Ways.getD (((p_c.At.getD ((p_server).toNat) d_Int)).toNat) d_Table).Name)), .slice A77 (((p_c.Ways.getD (((p_c.At.getD ((p_server).toNat) d_Int)).toNat) d_Table).Cols).length) c77, .slice A78 (((p_c.Ways.getD (((p_c.At.getD ((p_server).toNat) d_Int)).toNat) d_Table).Idxs).length) c78] := hB81
  have hO82z := hO82.size
  refine SeqR.done (tn (CW.sub (Sub.cons (d := 4) hx70 (Sub.nil _)) (CW.ret (rr rfl (.cons ⟨_, rfl, run_loadN Tryz.ty95 (cs := [.string (bs ((p_c.Ways.getD (((p_c.At.getD ((p_server).toNat) d_Int)).toNat) d_Table).Name)), .slice A77 (((p_c.Ways.getD (((p_c.At.getD ((p_server).toNat) d_Int)).toNat) d_Table).Cols).length) c77, .slice A78 (((p_c.Ways.getD (((p_c.At.getD ((p_server).toNat) d_Int)).toNat) d_Table).Idxs).length) c78]) rfl (hB81.cells (n := 3) rfl)⟩ .nil) ?_))))
  have hM83 : (i_Shift_table p_c p_server) = ((p_c.Ways.getD (((p_c.At.getD ((p_server).toNat) d_Int)).toNat) d_Table)) := by simp only [i_Shift_table, cond_true, cond_false, loopE_done, loopE_ret]
  rw [hM83]
  exact ⟨A77, c77, A78, c78, rfl, (RdS.up (RdS.only good_Str h77 hO82 (by simp only [Iv]; omega)) good_Str), (RdS.up (RdS.only good_Idx h78 hO82 (by simp only [Iv]; omega)) good_Idx), (okL.getD o4.2.1 ok_d_Table _), (Below.only (Ex.trans (Ex.trans (Ex.trans (Ex.refl w) hE14) hE20) hE69) hO82 (by omega))⟩
set_option maxRecDepth 100000 in
set_option maxHeartbeats 2000000 in
theorem c_g_slices_IndexFunc_string {A1 : Option Addr} {c1 : Nat} {g3 : Nat} {cp4 : List Value} {w : World} (p_s : List Str) (p_f : Str → Bool) (h1 : RdS w (Iv 0 w.heap.size) (RF e_Str) 1 A1 p_s.length c1 p_s) (hen5 : Enters Tryz.prog g3) (hfn6 : ∀ (w1 : World) (y0 : Str), Ex w w1 → y0 ∈ p_s → okS y0 → Cal Tryz.prog g3 (([.string (bs (y0))] : List Value) ++ cp4).toArray w1 fun v w2 => v = .bool (p_f y0) ∧ Ex w1 w2) (o2 : (okL okS) p_s) : Cal Tryz.prog 84 #[.slice A1 p_s.length c1, .func (.func g3) #[] cp4.toArray] w fun v w' => v = .int .i64 ((g_slices_IndexFunc_string p_s p_f)) ∧ Ex w w' := by
 have hol7 := o2.1
 refine Cal.of (vs := [.slice A1 p_s.length c1, .func (.func g3) #[] cp4.toArray]) Tryz.func84 rfl Tryz.ntmps84 rfl (CW.seq (CW.region (sd rfl (yl_assign rfl rfl (SeqR.done (tn (CW.seq (CW.seq (CW.region ?_)))))))))
 refine sd rfl (yl_move rfl rfl (sd rfl (yl_len Tryz.un27 rfl rfl (sd rfl (yl_move rfl rfl (SeqR.done (tn (CW.block (CW.loop (fun m9 L10 w11 => ∃ (k8 : Nat), m9 = p_s.length - k8 ∧ k8 ≤ p_s.length ∧ w.heap.size ≤ w11.heap.size ∧ lkp L10 0 = some (.slice A1 p_s.length c1) ∧ lkp L10 1 = some (.func (.func g3) #[] cp4.toArray) ∧ lkp L10 7 = some (.int .i64 ((p_s.length : Int))) ∧ lkp L10 8 = some (.int .i64 ((k8 : Int))) ∧ RdS w11 (Iv 0 w.heap.size) (RF e_Str) 1 A1 p_s.length c1 p_s ∧ Ex w w11 ∧ loopM (B_g_slices_IndexFunc_string_0 p_s p_f) (p_s.length - k8) k8 () = loopM (B_g_slices_IndexFunc_string_0 p_s p_f) (p_s.length - 0) 0 ()) (p_s.length - 0) ?_ ?_)))))))))
 ·exact ⟨0, rfl, (by omega), Nat.le_refl _, rfl, rfl, rfl, rfl, h1, (Ex.refl w), rfl⟩
 ·rintro m12 L13 w14 ⟨k8, rfl, hk15, hsz17, hl18, hl19, hl20, hl21, hf22, hf23, hI16⟩
  refine CW.sub (Sub.cons hl18 (Sub.cons hl19 (Sub.cons hl20 (Sub.cons hl21 (Sub.nil _))))) ?_
  have hf23z := Ex.size hf23
  have hbg24 := RdS.big hf22
  rcases Nat.lt_or_ge k8 p_s.length with hlt25 | hlt25
  ·refine CW.seq (CW.region (sd rfl (yl_lss rfl rfl rfl (SeqR.done (tn (CW.seq (CW.cond_t rfl (lt_t hlt25) (CW.skip (tn ?_)))))))))
   refine CW.seq (CW.block (CW.seq (CW.region (sd rfl (yl_move rfl rfl (sd rfl (yl_assign rfl rfl (SeqR.done (tn (CW.seq ?_))))))))))
   refine CW.region (sd rfl (yl_move rfl rfl (sd rfl (yl_move rfl rfl (sd rfl (yl_move rfl rfl ?_))))))
   obtain ⟨eb26, eo26, ec26, eA26, eS26, ebl26, el26, eR26, eC26⟩ := RdS.atD hf22 d_Str (i := k8) (by first | omega | assumption)
   obtain rfl := eR26
   have eC26 : Cells w14 eb26 (eo26 + k8 * 1) [.string (bs ((p_s.getD k8 d_Str)))] := eC26
   refine sd rfl (yl_indexAddrN Tryz.un27 Tryz.ty9 rfl rfl rfl eA26 (by first | omega | assumption | (simp only [IntKind.wrap_i64] at *; omega)) (sd rfl (yl_load1 Tryz.ty9 rfl rfl (eC26 0 _ rfl) (sd rfl (yl_callv hen5 rfl rfl (opvs_cons rfl opvs_nil) (Cal.mono (hfn6 w14 (p_s.getD k8 d_Str) hf23 (getD_mem (by omega)) (okL.getD o2 ok_d_Str _)) ?_))))))
   rintro v28 w27 ⟨rfl, hE29⟩
   have hE29z := Ex.size hE29
   refine SeqR.done (tn (bcase (p_f (p_s.getD k8 d_Str)) (fun hb30 => ?_) (fun hb30 => ?_)))
   ·refine CW.cond_t rfl hb30 (CW.seq (CW.region (sd rfl (yl_move rfl rfl (sd rfl (yl_assign rfl rfl (SeqR.done (tn (CW.ret (br ?_))))))))))
    refine tr (tr ?_)
    have hB32 : B_g_slices_IndexFunc_string_0 p_s p_f k8 () = .ret (k8 : Int) := by simp only [B_g_slices_IndexFunc_string_0, hb30, cond_true, cond_false, loopE_done, loopE_ret]
    have hL31 : loopM (B_g_slices_IndexFunc_string_0 p_s p_f) (p_s.length - 0) 0 () = .ret (k8 : Int) := hI16.symm.trans (loopM.ret hlt25 hB32)
    refine br (tr (rr rfl (.cons rfl .nil) ?_))
    have hM33 : (g_slices_IndexFunc_string p_s p_f) = ((k8 : Int)) := by simp only [g_slices_IndexFunc_string, hb30, hL31, cond_true, cond_false, loopE_done, loopE_ret]
    rw [hM33]
    exact ⟨rfl, (Ex.trans hf23 hE29)⟩
   ·refine CW.cond_f rfl hb30 (CW.skip (bn (tn (CW.region (sd rfl (yl_inc rfl rfl rfl (by omega) (sd rfl (yl_move rfl rfl (SeqR.done (tn ?_))))))))))
    have hB35 : B_g_slices_IndexFunc_string_0 p_s p_f k8 () = .cont () := by simp only [B_g_slices_IndexFunc_string_0, hb30, cond_true, cond_false, loopE_done, loopE_ret]
    exact ⟨p_s.length - (k8 + 1), by omega, k8 + 1, rfl, hlt25, (by omega), rfl, rfl, rfl, rfl, (RdS.ex good_Str hf22 hE29), (Ex.trans hf23 hE29), (loopM.cont hlt25 hB35).symm.trans hI16⟩
  ·refine CW.seq (CW.region (sd rfl (yl_lss rfl rfl rfl (SeqR.done (tn (CW.seq (CW.cond_f rfl (lt_f hlt25) (CW.exit (tx ?_)))))))))
   refine tx ?_
   have hL38 : loopM (B_g_slices_IndexFunc_string_0 p_s p_f) (p_s.length - 0) 0 () = .done () := hI16.symm.trans (loopM.stop hlt25)
   refine bx (tn (CW.seq (CW.region (sd rfl (yl_assign rfl rfl (SeqR.done (tn (CW.ret (rr rfl (.cons rfl .nil) ?_)))))))))
   have hM39 : (g_slices_IndexFunc_string p_s p_f) = (-1) := by simp only [g_slices_IndexFunc_string, hL38, cond_true, cond_false, loopE_done, loopE_ret]
   rw [hM39]
   exact ⟨rfl, hf23⟩
set_option maxRecDepth 100000 in
set_option maxHeartbeats 2000000 in
theorem c_g_slices_ContainsFunc_string {A1 : Option Addr} {c1 : Nat} {g3 : Nat} {cp4 : List Value} {w : World} (p_s : List Str) (p_f : Str → Bool) (h1 : RdS w (Iv 0 w.heap.size) (RF e_Str) 1 A1 p_s.length c1 p_s) (hen5 : Enters Tryz.prog g3) (hfn6 : ∀ (w1 : World) (y0 : Str), Ex w w1 → y0 ∈ p_s → okS y0 → Cal Tryz.prog g3 (([.string (bs (y0))] : List Value) ++ cp4).toArray w1 fun v w2 => v = .bool (p_f y0) ∧ Ex w1 w2) (o2 : (okL okS) p_s) : Cal Tryz.prog 48 #[.slice A1 p_s.length c1, .func (.func g3) #[] cp4.toArray] w fun v w' => v = .bool ((g_slices_ContainsFunc_string p_s p_f)) ∧ Ex w w' := by
 have hol7 := o2.1
 refine Cal.of (vs := [.slice A1 p_s.length c1, .func (.func g3) #[] cp4.toArray]) Tryz.func48 rfl Tryz.ntmps48 rfl (CW.seq (CW.region (sd rfl (yl_assign rfl rfl (SeqR.done (tn (CW.seq (CW.region (sd rfl (yl_move rfl rfl ?_))))))))))
 refine sd rfl (yl_move rfl rfl (sd rfl (yl_call Tryz.en84 rfl (opvs_cons rfl (opvs_cons rfl opvs_nil)) (Cal.mono (c_g_slices_IndexFunc_string p_s p_f (RdS.up h1 good_Str) hen5 (fun w1 y0 => fun hE => hfn6 w1 y0 (Ex.trans (Ex.refl w) hE)) o2) ?_))))
 rintro v9 w8 ⟨rfl, hE10⟩
 have hE10z := Ex.size hE10
 refine sd rfl (yl_geq rfl rfl rfl (sd rfl (yl_assign rfl rfl (SeqR.done (tn (CW.ret (rr rfl (.cons rfl .nil) ?_)))))))
 have hM11 : (g_slices_ContainsFunc_string p_s p_f) = (decide (0 ≤ (g_slices_IndexFunc_string p_s p_f))) := by simp only [g_slices_ContainsFunc_string, cond_true, cond_false, loopE_done, loopE_ret]
 rw [hM11]
 exact ⟨rfl, (Ex.trans (Ex.refl w) hE10)⟩
set_option maxRecDepth 100000 in
set_option maxHeartbeats 2000000 in
theorem c_i_isField {w : World} (p_s : Str) (o1 : okS p_s) : Cal Tryz.prog 118 #[.string (bs (p_s))] w fun v w' => v = .bool ((i_isField p_s)) ∧ Ex w w' := by
 have hol2 : p_s.length ≤ 1073741824 := o1
 refine Cal.of (vs := [.string (bs (p_s))]) Tryz.func118 rfl Tryz.ntmps118 rfl (CW.seq (CW.region (sd rfl (yl_assign rfl rfl (SeqR.done (tn (CW.seq (CW.region (sd rfl (yl_move rfl rfl ?_))))))))))
 refine sd rfl (yl_slen Tryz.un9 (a := p_s) rfl rfl (sd rfl (yl_call Tryz.en63 rfl (opvs_cons rfl (opvs_cons rfl (opvs_cons rfl opvs_nil))) (Cal.mono (c_i_within (p_s.length : Int) 1 3) ?_))))
 rintro v4 w3 ⟨rfl, hE5⟩
 have hE5z := Ex.size hE5
 refine sd rfl (yl_move rfl rfl (bcase (i_within (p_s.length : Int) 1 3) (fun hb6 => ?_) (fun hb6 => ?_)))
 ·have hb6p := f_within hb6
  refine sy rfl rfl hb6 (yl_move rfl rfl (sy rfl rfl hb6 (yl_call Tryz.en143 rfl (opvs_cons rfl (opvs_cons rfl opvs_nil)) (Cal.mono (c_i_hasBytes p_s ([] : Str) o1 (okS.lit rfl)) ?_))))
  rintro v8 w7 ⟨rfl, hE9⟩
  have hE9z := Ex.size hE9
  refine sd rfl (yl_pick_t rfl rfl hb6 rfl (sd rfl (yl_assign rfl rfl (SeqR.done (tn (CW.ret (rr rfl (.cons rfl .nil) ?_)))))))
  have hM10 : (i_isField p_s) = ((i_hasBytes p_s ([] : Str))) := by simp only [i_isField, hb6, cond_true, cond_false, loopE_done, loopE_ret]
  rw [hM10]
  exact ⟨rfl, (Ex.trans (Ex.trans (Ex.refl w) hE5) hE9)⟩
 ·refine sz rfl rfl hb6 (sz rfl rfl hb6 (sd rfl (yl_pick_f rfl rfl hb6 rfl (sd rfl (yl_assign rfl rfl (SeqR.done (tn (CW.ret (rr rfl (.cons rfl .nil) ?_)))))))))
  have hM13 : (i_isField p_s) = (false) := by simp only [i_isField, hb6, cond_true, cond_false, loopE_done, loopE_ret]
  rw [hM13]
  exact ⟨rfl, (Ex.trans (Ex.refl w) hE5)⟩
set_option maxRecDepth 100000 in
set_option maxHeartbeats 2000000 in
theorem c_i_Table_isRow_c1 {w : World} (p_s : Str) (o1 : okS p_s) : Cal Tryz.prog 140 #[.string (bs (p_s))] w fun v w' => v = .bool ((i_Table_isRow_c1 p_s)) ∧ Ex w w' := by
 have hol2 : p_s.length ≤ 1073741824 := o1
 refine Cal.of (vs := [.string (bs (p_s))]) Tryz.func140 rfl Tryz.ntmps140 rfl (CW.seq (CW.region (sd rfl (yl_assign rfl rfl (SeqR.done (tn (CW.seq (CW.region (sd rfl (yl_move rfl rfl ?_))))))))))
 refine sd rfl (yl_call Tryz.en118 rfl (opvs_cons rfl opvs_nil) (Cal.mono (c_i_isField p_s o1) ?_))
 rintro v4 w3 ⟨rfl, hE5⟩
 have hE5z := Ex.size hE5
 refine sd rfl (yl_not rfl rfl (sd rfl (yl_assign rfl rfl (SeqR.done (tn (CW.ret (rr rfl (.cons rfl .nil) ?_)))))))
 have hM6 : (i_Table_isRow_c1 p_s) = (!(i_isField p_s)) := by simp only [i_Table_isRow_c1, cond_true, cond_false, loopE_done, loopE_ret]
 rw [hM6]
 exact ⟨rfl, (Ex.trans (Ex.refl w) hE5)⟩
set_option maxRecDepth 100000 in
set_option maxHeartbeats 2000000 in
theorem c_i_Table_isRow {A1 : Option Addr} {c1 : Nat} {A2 : Option Addr} {c2 : Nat} {A4 : Option Addr} {c4 : Nat} {w : World} (p_t : DTable) (p_r : DRow) (h1 : RdS w (Iv 0 w.heap.size) (RF e_Str) 1 A1 p_t.Cols.length c1 p_t.Cols) (h2 : RdS w (Iv 0 w.heap.size) (RF e_Idx) 3 A2 p_t.Idxs.length c2 p_t.Idxs) (h4 : RdS w (Iv 0 w.heap.size) (RF e_Str) 1 A4 p_r.Vals.length c4 p_r.Vals) (o3 : ok_Table p_t) (o5 : ok_Row p_r) : Cal Tryz.prog 109 #[.agg #[.string (bs (p_t.Name)), .slice A1 p_t.Cols.length c1, .slice A2 p_t.Idxs.length c2], .agg #[.slice A4 p_r.Vals.length c4]] w fun v w' => v = .bool ((i_Table_isRow p_t p_r)) ∧ Ex w w' := by
 have hol6 : p_t.Name.length ≤ 1073741824 := o3.1
 have hol7 := o3.2.1.1
 have hol8 := o3.2.2.1
 have hol9 := o5.1
 refine Cal.of (vs := [.agg #[.string (bs (p_t.Name)), .slice A1 p_t.Cols.length c1, .slice A2 p_t.Idxs.length c2], .agg #[.slice A4 p_r.Vals.length c4]]) Tryz.func109 rfl Tryz.ntmps109 rfl (CW.seq (CW.region (sd rfl (yl_box (cs := [.string (bs (p_t.Name)), .slice A1 p_t.Cols.length c1, .slice A2 p_t.Idxs.length c2]) rfl rfl rfl ?_))))
 intro b10 w11 hs12 hz13 hB14 hE15
 refine sd rfl (yl_box (cs := [.slice A4 p_r.Vals.length c4]) rfl rfl rfl ?_)
 intro b16 w17 hs18 hz19 hB20 hE21
 refine sd rfl (yl_assign rfl rfl (SeqR.done (tn (CW.seq (CW.region (sd rfl (yl_fieldAddr Tryz.fd42_0 rfl rfl (sd rfl (yl_load1 Tryz.ty27 rfl rfl ((hB20.cell 0).trans rfl) (sd rfl (yl_len Tryz.un27 rfl rfl (sd rfl (yl_fieldAddr Tryz.fd95_1 rfl rfl ?_)))))))))))))
 refine sd rfl (yl_load1 Tryz.ty27 rfl rfl (((Box.ex hB14 hE21).cell 1).trans rfl) (sd rfl (yl_len Tryz.un27 rfl rfl (sd rfl (yl_eql rfl rfl rfl (sd rfl (yl_move rfl rfl (bcase (decide ((p_r.Vals.length : Int) = (p_t.Cols.length : Int))) (fun hb23 => ?_) (fun hb23 => ?_)))))))))
 ·have hb23p := dec_t hb23
  refine sy rfl rfl hb23 (yl_fieldAddr Tryz.fd42_0 rfl rfl (sy rfl rfl hb23 (yl_load1 Tryz.ty27 rfl rfl ((hB20.cell 0).trans rfl) (sy rfl rfl hb23 (yl_call Tryz.en48 rfl (opvs_cons rfl (opvs_cons rfl opvs_nil)) (Cal.mono (c_g_slices_ContainsFunc_string p_r.Vals (fun y0 => i_Table_isRow_c1 y0) (RdS.up (RdS.ex good_Str (RdS.ex good_Str h4 hE15) hE21) good_Str) Tryz.en140 (fun _ y0 => fun hE hm0 ov0 => c_i_Table_isRow_c1 y0 ov0) o5) ?_))))))
  rintro v27 w26 ⟨rfl, hE28⟩
  have hE28z := Ex.size hE28
  refine sy rfl rfl hb23 (yl_not rfl rfl (sd rfl (yl_pick_t rfl rfl hb23 rfl (sd rfl (yl_assign rfl rfl (SeqR.done (tn (CW.ret (rr rfl (.cons rfl .nil) ?_)))))))))
  have hM29 : (i_Table_isRow p_t p_r) = (!(g_slices_ContainsFunc_string p_r.Vals (fun y0 => i_Table_isRow_c1 y0))) := by simp only [i_Table_isRow, hb23, cond_true, cond_false, loopE_done, loopE_ret]
  rw [hM29]
  exact ⟨rfl, (Ex.trans (Ex.trans (Ex.trans (Ex.refl w) hE15) hE21) hE28)⟩
 ·have hb23p := dec_f hb23
  refine sz rfl rfl hb23 (sz rfl rfl hb23 (sz rfl rfl hb23 (sz rfl rfl hb23 (sd rfl (yl_pick_f rfl rfl hb23 rfl (sd rfl (yl_assign rfl rfl (SeqR.done (tn (CW.ret ?_))))))))))
  refine rr rfl (.cons rfl .nil) ?_
  have hM33 : (i_Table_isRow p_t p_r) = (false) := by simp only [i_Table_isRow, hb23, cond_true, cond_false, loopE_done, loopE_ret]
  rw [hM33]
  exact ⟨rfl, (Ex.trans (Ex.trans (Ex.refl w) hE15) hE21)⟩
set_option maxRecDepth 100000 in
set_option maxHeartbeats 2000000 in
theorem c_i_Table_isRowAct {A1 : Option Addr} {c1 : Nat} {A2 : Option Addr} {c2 : Nat} {A4 : Option Addr} {c4 : Nat} {A5 : Option Addr} {c5 : Nat} {w : World} (p_t : DTable) (p_a : DRowAct) (h1 : RdS w (Iv 0 w.heap.size) (RF e_Str) 1 A1 p_t.Cols.length c1 p_t.Cols) (h2 : RdS w (Iv 0 w.heap.size) (RF e_Idx) 3 A2 p_t.Idxs.length c2 p_t.Idxs) (h4 : RdS w (Iv 0 w.heap.size) (RF e_Str) 1 A4 p_a.Old.Vals.length c4 p_a.Old.Vals) (h5 : RdS w (Iv 0 w.heap.size) (RF e_Str) 1 A5 p_a.New.Vals.length c5 p_a.New.Vals) (o3 : ok_Table p_t) (o6 : ok_RowAct p_a) (pre0 : 0 < p_t.Cols.length) : Cal Tryz.prog 75 #[.agg #[.string (bs (p_t.Name)), .slice A1 p_t.Cols.length c1, .slice A2 p_t.Idxs.length c2], .agg #[.int .i64 (p_a.Kind), .slice A4 p_a.Old.Vals.length c4, .slice A5 p_a.New.Vals.length c5]] w fun v w' => v = .bool ((i_Table_isRowAct p_t p_a)) ∧ Ex w w' := by
 have hol7 : p_t.Name.length ≤ 1073741824 := o3.1
 have hol8 := o3.2.1.1
 have hol9 := o3.2.2.1
 have hol10 := o6.1.1
 have hol11 := o6.2.1
 refine Cal.of (vs := [.agg #[.string (bs (p_t.Name)), .slice A1 p_t.Cols.length c1, .slice A2 p_t.Idxs.length c2], .agg #[.int .i64 (p_a.Kind), .slice A4 p_a.Old.Vals.length c4, .slice A5 p_a.New.Vals.length c5]]) Tryz.func75 rfl Tryz.ntmps75 rfl (CW.seq (CW.region (sd rfl (yl_box (cs := [.string (bs (p_t.Name)), .slice A1 p_t.Cols.length c1, .slice A2 p_t.Idxs.length c2]) rfl rfl rfl ?_))))
 intro b12 w13 hs14 hz15 hB16 hE17
 refine sd rfl (yl_box (cs := [.int .i64 (p_a.Kind), .slice A4 p_a.Old.Vals.length c4, .slice A5 p_a.New.Vals.length c5]) rfl rfl rfl ?_)
 intro b18 w19 hs20 hz21 hB22 hE23
 refine sd rfl (yl_assign rfl rfl (SeqR.done (tn (CW.seq (CW.seq (CW.region (sd rfl (yl_fieldAddr Tryz.fd44_0 rfl rfl (sd rfl (yl_load1 Tryz.ty3 rfl rfl ((hB22.cell 0).trans rfl) (SeqR.done ?_)))))))))))
 refine tn (CW.block (CW.seq (CW.region (sd rfl (yl_eql rfl rfl rfl (sd rfl (yl_assign rfl rfl (SeqR.done (tn (bcase (decide (p_a.Kind = 1)) (fun hb24 => ?_) (fun hb24 => ?_)))))))))))
 ·have hb24p := dec_t hb24
  refine CW.cond_t rfl hb24 (CW.seq (CW.region (sd rfl (yl_fieldAddr Tryz.fd44_1 rfl rfl (sd rfl (yl_fieldAddr Tryz.fd42_0 rfl rfl (sd rfl (yl_load1 Tryz.ty27 rfl rfl ((hB22.cell 1).trans rfl) (sd rfl (yl_len Tryz.un27 rfl rfl (sd rfl (yl_eql rfl rfl rfl (sd rfl (yl_move rfl rfl ?_))))))))))))))
  refine bcase (decide ((p_a.Old.Vals.length : Int) = 0)) (fun hb25 => ?_) (fun hb25 => ?_)
  ·have hb25p := dec_t hb25
   refine sy rfl rfl hb25 (yl_loadN (cs := [.string (bs (p_t.Name)), .slice A1 p_t.Cols.length c1, .slice A2 p_t.Idxs.length c2]) Tryz.ty95 rfl rfl ((Box.ex hB16 hE23).cells (n := 3) rfl) rfl (sy rfl rfl hb25 (yl_fieldAddr Tryz.fd44_2 rfl rfl (sy rfl rfl hb25 (yl_loadN (cs := [.slice A5 p_a.New.Vals.length c5]) Tryz.ty42 rfl rfl (hB22.cells (n := 1) rfl) rfl (sy rfl rfl hb25 (yl_call Tryz.en109 rfl (opvs_cons rfl (opvs_cons rfl opvs_nil)) (Cal.mono (c_i_Table_isRow p_t p_a.New (RdS.up (RdS.ex good_Str (RdS.ex good_Str h1 hE17) hE23) good_Str) (RdS.up (RdS.ex good_Idx (RdS.ex good_Idx h2 hE17) hE23) good_Idx) (RdS.up (RdS.ex good_Str (RdS.ex good_Str h5 hE17) hE23) good_Str) o3 o6.2) ?_))))))))
   rintro v34 w33 ⟨rfl, hE35⟩
   have hE35z := Ex.size hE35
   refine sd rfl (yl_pick_t rfl rfl hb25 rfl (sd rfl (yl_assign rfl rfl (SeqR.done (tn (CW.ret (br (tr (rr rfl (.cons rfl .nil) ?_)))))))))
   have hM36 : (i_Table_isRowAct p_t p_a) = ((i_Table_isRow p_t p_a.New)) := by simp only [i_Table_isRowAct, hb24, hb25, cond_true, cond_false, loopE_done, loopE_ret]
   rw [hM36]
   exact ⟨rfl, (Ex.trans (Ex.trans (Ex.trans (Ex.refl w) hE17) hE23) hE35)⟩
  ·have hb25p := dec_f hb25
   refine sz rfl rfl hb25 (sz rfl rfl hb25 (sz rfl rfl hb25 (sz rfl rfl hb25 (sd rfl (yl_pick_f rfl rfl hb25 rfl (sd rfl (yl_assign rfl rfl (SeqR.done (tn (CW.ret ?_))))))))))
   refine br (tr (rr rfl (.cons rfl .nil) ?_))
   have hM40 : (i_Table_isRowAct p_t p_a) = (false) := by simp only [i_Table_isRowAct, hb24, hb25, cond_true, cond_false, loopE_done, loopE_ret]
   rw [hM40]
   exact ⟨rfl, (Ex.trans (Ex.trans (Ex.refl w) hE17) hE23)⟩
 ·have hb24p := dec_f hb24
  refine CW.cond_f rfl hb24 (CW.seq (CW.region (sd rfl (yl_eql rfl rfl rfl (sd rfl (yl_assign rfl rfl (SeqR.done (tn (bcase (decide (p_a.Kind = 2)) (fun hb43 => ?_) (fun hb43 => ?_))))))))))
  ·have hb43p := dec_t hb43
   refine CW.cond_t rfl hb43 (CW.seq (CW.region (sd rfl (yl_loadN (cs := [.string (bs (p_t.Name)), .slice A1 p_t.Cols.length c1, .slice A2 p_t.Idxs.length c2]) Tryz.ty95 rfl rfl ((Box.ex hB16 hE23).cells (n := 3) rfl) rfl (sd rfl (yl_fieldAddr Tryz.fd44_1 rfl rfl (sd rfl (yl_loadN (cs := [.slice A4 p_a.Old.Vals.length c4]) Tryz.ty42 rfl rfl (hB22.cells (n := 1) rfl) rfl (sd rfl (yl_call Tryz.en109 rfl (opvs_cons rfl (opvs_cons rfl opvs_nil)) (Cal.mono (c_i_Table_isRow p_t p_a.Old (RdS.up (RdS.ex good_Str (RdS.ex good_Str h1 hE17) hE23) good_Str) (RdS.up (RdS.ex good_Idx (RdS.ex good_Idx h2 hE17) hE23) good_Idx) (RdS.up (RdS.ex good_Str (RdS.ex good_Str h4 hE17) hE23) good_Str) o3 o6.1) ?_)))))))))))
   rintro v52 w51 ⟨rfl, hE53⟩
   have hE53z := Ex.size hE53
   refine sd rfl (yl_move rfl rfl (bcase (i_Table_isRow p_t p_a.Old) (fun hb54 => ?_) (fun hb54 => ?_)))
   ·obtain ⟨hb54p0, hb54p1⟩ := f_i_isRow hb54
    refine sy rfl rfl hb54 (yl_fieldAddr Tryz.fd44_2 rfl rfl (sy rfl rfl hb54 (yl_fieldAddr Tryz.fd42_0 rfl rfl (sy rfl rfl hb54 (yl_load1 Tryz.ty27 rfl rfl (((Box.ex hB22 hE53).cell 2).trans rfl) (sy rfl rfl hb54 (yl_len Tryz.un27 rfl rfl (sy rfl rfl hb54 (yl_eql rfl rfl rfl (sd rfl (yl_pick_t rfl rfl hb54 rfl (sd rfl (yl_assign rfl rfl (SeqR.done (tn ?_)))))))))))))))
    refine CW.ret (br (tr (rr rfl (.cons rfl .nil) ?_)))
    have hM56 : (i_Table_isRowAct p_t p_a) = (decide ((p_a.New.Vals.length : Int) = 0)) := by simp only [i_Table_isRowAct, hb24, hb43, hb54, cond_true, cond_false, loopE_done, loopE_ret]
    rw [hM56]
    exact ⟨rfl, (Ex.trans (Ex.trans (Ex.trans (Ex.refl w) hE17) hE23) hE53)⟩
   ·refine sz rfl rfl hb54 (sz rfl rfl hb54 (sz rfl rfl hb54 (sz rfl rfl hb54 (sz rfl rfl hb54 (sd rfl (yl_pick_f rfl rfl hb54 rfl (sd rfl (yl_assign rfl rfl (SeqR.done (tn ?_))))))))))
    refine CW.ret (br (tr (rr rfl (.cons rfl .nil) ?_)))
    have hM60 : (i_Table_isRowAct p_t p_a) = (false) := by simp only [i_Table_isRowAct, hb24, hb43, hb54, cond_true, cond_false, loopE_done, loopE_ret]
    rw [hM60]
    exact ⟨rfl, (Ex.trans (Ex.trans (Ex.trans (Ex.refl w) hE17) hE23) hE53)⟩
  ·have hb43p := dec_f hb43
   refine CW.cond_f rfl hb43 (CW.seq (CW.region (sd rfl (yl_eql rfl rfl rfl (sd rfl (yl_assign rfl rfl (SeqR.done (tn (bcase (decide (p_a.Kind = 3)) (fun hb64 => ?_) (fun hb64 => ?_))))))))))
   ·have hb64p := dec_t hb64
    refine CW.cond_t rfl hb64 (CW.seq (bcase (i_Table_isRow p_t p_a.Old) (fun hb73 => ?_) (fun hb73 => ?_)))
    ·obtain ⟨hb73p0, hb73p1⟩ := f_i_isRow hb73
     refine bcase (i_Table_isRow p_t p_a.New) (fun hb85 => ?_) (fun hb85 => ?_)
     ·obtain ⟨hb85p0, hb85p1⟩ := f_i_isRow hb85
      have q86 := Box.ex hB16 hE23
      have q88 := RdS.ex good_Str (RdS.ex good_Str h1 hE17) hE23
      have q90 := RdS.ex good_Idx (RdS.ex good_Idx h2 hE17) hE23
      have q92 := RdS.ex good_Str (RdS.ex good_Str h4 hE17) hE23
      have q95 := RdS.ex good_Str (RdS.ex good_Str h5 hE17) hE23
      obtain ⟨eb97, eo97, ec97, eA97, eS97, ebl97, el97, eR97, eC97⟩ := RdS.atD q92 d_Str (i := 0) (by first | omega | assumption)
      obtain rfl := eR97
      have eC97 : Cells w19 eb97 (eo97 + 0 * 1) [.string (bs ((p_a.Old.Vals.getD 0 d_Str)))] := eC97
      obtain ⟨eb98, eo98, ec98, eA98, eS98, ebl98, el98, eR98, eC98⟩ := RdS.atD q95 d_Str (i := 0) (by first | omega | assumption)
      obtain rfl := eR98
      have eC98 : Cells w19 eb98 (eo98 + 0 * 1) [.string (bs ((p_a.New.Vals.getD 0 d_Str)))] := eC98
      refine CW.drawsI 24 (vgetI [DetI (.agg #[.string (bs (p_t.Name)), .slice A1 p_t.Cols.length c1, .slice A2 p_t.Idxs.length c2]), DetI (.pointer (some ⟨b18, 0 + 1, none⟩)), DetI (.agg #[.slice A4 p_a.Old.Vals.length c4]), DetI (.bool ((i_Table_isRow p_t p_a.Old))), DetI (.bool ((i_Table_isRow p_t p_a.Old))), DetI (.agg #[.string (bs (p_t.Name)), .slice A1 p_t.Cols.length c1, .slice A2 p_t.Idxs.length c2]), DetI (.pointer (some ⟨b18, 0 + 2, none⟩)), DetI (.agg #[.slice A5 p_a.New.Vals.length c5]), DetI (.bool ((i_Table_isRow p_t p_a.New))), DetI (.bool ((i_Table_isRow p_t p_a.New))), DetI (.bool ((i_Table_isRow p_t p_a.New))), DetI (.pointer (some ⟨b18, 0 + 1, none⟩)), DetI (.pointer (some ⟨b18, 0 + 1 + 0, none⟩)), DetI (.slice A4 p_a.Old.Vals.length c4), DetI (.pointer (some ⟨eb97, eo97 + 0 * 1, none⟩)), DetI (.string (bs ((p_a.Old.Vals.getD 0 d_Str)))), DetI (.pointer (some ⟨b18, 0 + 2, none⟩)), DetI (.pointer (some ⟨b18, 0 + 2 + 0, none⟩)), DetI (.slice A5 p_a.New.Vals.length c5), DetI (.pointer (some ⟨eb98, eo98 + 0 * 1, none⟩)), DetI (.string (bs ((p_a.New.Vals.getD 0 d_Str)))), DetI (.bool ((p_a.Old.Vals.getD 0 d_Str) == (p_a.New.Vals.getD 0 d_Str))), DetI (.bool ((p_a.Old.Vals.getD 0 d_Str) == (p_a.New.Vals.getD 0 d_Str))), DetI (.bool ((p_a.Old.Vals.getD 0 d_Str) == (p_a.New.Vals.getD 0 d_Str)))]) Tryz.follows rfl rfl rfl rfl rfl rfl (vgetI_stable ⟨StableI.det _, StableI.det _, StableI.det _, StableI.det _, StableI.det _, StableI.det _, StableI.det _, StableI.det _, StableI.det _, StableI.det _, StableI.det _, StableI.det _, StableI.det _, StableI.det _, StableI.det _, StableI.det _, StableI.det _, StableI.det _, StableI.det _, StableI.det _, StableI.det _, StableI.det _, StableI.det _, StableI.det _, trivial⟩) ⟨?_, ?_, ?_, ?_, ?_, ?_, ?_, ?_, ?_, ?_, ?_, ?_, ?_, ?_, ?_, ?_, ?_, ?_, ?_, ?_, ?_, ?_, ?_, ?_, trivial⟩ ?_
      ·exact fun _ _ h => os rfl ((yl_loadN (cs := [.string (bs (p_t.Name)), .slice A1 p_t.Cols.length c1, .slice A2 p_t.Idxs.length c2]) Tryz.ty95 rfl (h.old 2 _ rfl rfl) ((Box.ex q86 h.ex).cells (n := 3) rfl) rfl kI))
      ·exact fun _ _ h => os rfl ((yl_fieldAddr Tryz.fd44_1 rfl (h.old 3 _ rfl rfl) kI))
      ·exact fun _ _ h => os rfl ((yl_loadN (cs := [.slice A4 p_a.Old.Vals.length c4]) Tryz.ty42 rfl (h.dt 1 36 rfl rfl rfl) ((Box.ex hB22 h.ex).cells (n := 1) rfl) rfl kI))
      ·intro L116 w117 hi118
       have hE119 := hi118.ex
       refine OpR.op' rfl (yl_call Tryz.en109 rfl (opvs_cons (hi118.dt 0 35 rfl rfl rfl) (opvs_cons (hi118.dt 2 37 rfl rfl rfl) opvs_nil)) (Cal.mono (c_i_Table_isRow p_t p_a.Old (RdS.up (RdS.ex good_Str q88 hE119) good_Str) (RdS.up (RdS.ex good_Idx q90 hE119) good_Idx) (RdS.up (RdS.ex good_Str q92 hE119) good_Str) o3 o6.1) ?_))
       rintro v126 w125 ⟨rfl, hE127⟩
       exact ⟨rfl, hE127⟩
      ·exact fun _ _ h => os rfl ((yl_move rfl (h.dt 3 38 rfl rfl rfl) kI))
      ·exact fun _ _ h => OpR.want rfl rfl (h.dt 4 39 rfl rfl rfl) hb73 (Yl.sameI (yl_loadN (cs := [.string (bs (p_t.Name)), .slice A1 p_t.Cols.length c1, .slice A2 p_t.Idxs.length c2]) Tryz.ty95 rfl (h.old 2 _ rfl rfl) ((Box.ex q86 h.ex).cells (n := 3) rfl) rfl kI))
      ·exact fun _ _ h => OpR.want rfl rfl (h.dt 4 39 rfl rfl rfl) hb73 (Yl.sameI (yl_fieldAddr Tryz.fd44_2 rfl (h.old 3 _ rfl rfl) kI))
      ·exact fun _ _ h => OpR.want rfl rfl (h.dt 4 39 rfl rfl rfl) hb73 (Yl.sameI (yl_loadN (cs := [.slice A5 p_a.New.Vals.length c5]) Tryz.ty42 rfl (h.dt 6 41 rfl rfl rfl) ((Box.ex hB22 h.ex).cells (n := 1) rfl) rfl kI))
      ·intro L153 w154 hi155
       have hE156 := hi155.ex
       refine OpR.want rfl rfl (hi155.dt 4 39 rfl rfl rfl) hb73 (yl_call Tryz.en109 rfl (opvs_cons (hi155.dt 5 40 rfl rfl rfl) (opvs_cons (hi155.dt 7 42 rfl rfl rfl) opvs_nil)) (Cal.mono (c_i_Table_isRow p_t p_a.New (RdS.up (RdS.ex good_Str q88 hE156) good_Str) (RdS.up (RdS.ex good_Idx q90 hE156) good_Idx) (RdS.up (RdS.ex good_Str q95 hE156) good_Str) o3 o6.2) ?_))
       rintro v164 w163 ⟨rfl, hE165⟩
       exact ⟨rfl, hE165⟩
      ·exact fun _ _ h => os rfl ((yl_pick_t rfl (h.dt 4 39 rfl rfl rfl) hb73 (h.dt 8 43 rfl rfl rfl) kI))
      ·exact fun _ _ h => os rfl ((yl_move rfl (h.dt 9 44 rfl rfl rfl) kI))
      ·exact fun _ _ h => OpR.want rfl rfl (h.dt 10 45 rfl rfl rfl) hb85 (Yl.sameI (yl_fieldAddr Tryz.fd44_1 rfl (h.old 3 _ rfl rfl) kI))
      ·exact fun _ _ h => OpR.want rfl rfl (h.dt 10 45 rfl rfl rfl) hb85 (Yl.sameI (yl_fieldAddr Tryz.fd42_0 rfl (h.dt 11 46 rfl rfl rfl) kI))
      ·exact fun _ _ h => OpR.want rfl rfl (h.dt 10 45 rfl rfl rfl) hb85 (Yl.sameI (yl_load1 Tryz.ty27 rfl (h.dt 12 47 rfl rfl rfl) (((Box.ex hB22 h.ex).cell 1).trans rfl) kI))
      ·intro L196 w197 hi198
       have hE199 := hi198.ex
       have hE199z := Ex.size hE199
       exact OpR.want rfl rfl (hi198.dt 10 45 rfl rfl rfl) hb85 (Yl.sameI (yl_indexAddrN Tryz.un27 Tryz.ty9 rfl (hi198.dt 13 48 rfl rfl rfl) rfl eA97 (by first | omega | assumption | (simp only [IntKind.wrap_i64] at *; omega)) kI))
      ·exact fun _ _ h => OpR.want rfl rfl (h.dt 10 45 rfl rfl rfl) hb85 (Yl.sameI (yl_load1 Tryz.ty9 rfl (h.dt 14 49 rfl rfl rfl) ((Cells.ex eC97 h.ex) 0 _ rfl) kI))
      ·exact fun _ _ h => OpR.want rfl rfl (h.dt 10 45 rfl rfl rfl) hb85 (Yl.sameI (yl_fieldAddr Tryz.fd44_2 rfl (h.old 3 _ rfl rfl) kI))
      ·exact fun _ _ h => OpR.want rfl rfl (h.dt 10 45 rfl rfl rfl) hb85 (Yl.sameI (yl_fieldAddr Tryz.fd42_0 rfl (h.dt 16 51 rfl rfl rfl) kI))
      ·exact fun _ _ h => OpR.want rfl rfl (h.dt 10 45 rfl rfl rfl) hb85 (Yl.sameI (yl_load1 Tryz.ty27 rfl (h.dt 17 52 rfl rfl rfl) (((Box.ex hB22 h.ex).cell 2).trans rfl) kI))
      ·intro L228 w229 hi230
       have hE231 := hi230.ex
       have hE231z := Ex.size hE231
       exact OpR.want rfl rfl (hi230.dt 10 45 rfl rfl rfl) hb85 (Yl.sameI (yl_indexAddrN Tryz.un27 Tryz.ty9 rfl (hi230.dt 18 53 rfl rfl rfl) rfl eA98 (by first | omega | assumption | (simp only [IntKind.wrap_i64] at *; omega)) kI))
      ·exact fun _ _ h => OpR.want rfl rfl (h.dt 10 45 rfl rfl rfl) hb85 (Yl.sameI (yl_load1 Tryz.ty9 rfl (h.dt 19 54 rfl rfl rfl) ((Cells.ex eC98 h.ex) 0 _ rfl) kI))
      ·exact fun _ _ h => OpR.want rfl rfl (h.dt 10 45 rfl rfl rfl) hb85 (Yl.sameI (yl_seql (a := (p_a.Old.Vals.getD 0 d_Str)) (b := (p_a.New.Vals.getD 0 d_Str)) rfl (h.dt 15 50 rfl rfl rfl) (h.dt 20 55 rfl rfl rfl) kI))
      ·exact fun _ _ h => os rfl ((yl_pick_t rfl (h.dt 10 45 rfl rfl rfl) hb85 (h.dt 21 56 rfl rfl rfl) kI))
      ·exact fun _ _ h => os rfl ((yl_assign rfl (h.dt 22 57 rfl rfl rfl) kI))
      ·intro fl262 fh263 L259 w260 hp261
       have hE264 := hp261.ex
       have hE264z := Ex.size hE264
       refine SeqR.done (tn (CW.sub (Sub.cons (d := 4) (hp261.nt 23 4 rfl rfl rfl) (Sub.nil _)) (CW.ret (br (tr (rr rfl (.cons rfl .nil) ?_))))))
       have hM266 : (i_Table_isRowAct p_t p_a) = ((p_a.Old.Vals.getD 0 d_Str) == (p_a.New.Vals.getD 0 d_Str)) := by simp only [i_Table_isRowAct, hb24, hb43, hb64, hb73, hb85, cond_true, cond_false, loopE_done, loopE_ret]
       rw [hM266]
       exact ⟨rfl, (Ex.trans (Ex.trans (Ex.trans (Ex.refl w) hE17) hE23) hE264)⟩
     ·have q270 := Box.ex hB16 hE23
      have q272 := RdS.ex good_Str (RdS.ex good_Str h1 hE17) hE23
      have q274 := RdS.ex good_Idx (RdS.ex good_Idx h2 hE17) hE23
      refine CW.drawsI 24 (vgetI [DetI (.agg #[.string (bs (p_t.Name)), .slice A1 p_t.Cols.length c1, .slice A2 p_t.Idxs.length c2]), DetI (.pointer (some ⟨b18, 0 + 1, none⟩)), DetI (.agg #[.slice A4 p_a.Old.Vals.length c4]), DetI (.bool ((i_Table_isRow p_t p_a.Old))), DetI (.bool ((i_Table_isRow p_t p_a.Old))), DetI (.agg #[.string (bs (p_t.Name)), .slice A1 p_t.Cols.length c1, .slice A2 p_t.Idxs.length c2]), DetI (.pointer (some ⟨b18, 0 + 2, none⟩)), DetI (.agg #[.slice A5 p_a.New.Vals.length c5]), DetI (.bool ((i_Table_isRow p_t p_a.New))), DetI (.bool ((i_Table_isRow p_t p_a.New))), DetI (.bool ((i_Table_isRow p_t p_a.New))), DetI (undef), DetI (undef), DetI (undef), DetI (undef), DetI (undef), DetI (undef), DetI (undef), DetI (undef), DetI (undef), DetI (undef), DetI (undef), DetI (.bool (false)), DetI (.bool (false))]) Tryz.follows rfl rfl rfl rfl rfl rfl (vgetI_stable ⟨StableI.det _, StableI.det _, StableI.det _, StableI.det _, StableI.det _, StableI.det _, StableI.det _, StableI.det _, StableI.det _, StableI.det _, StableI.det _, StableI.det _, StableI.det _, StableI.det _, StableI.det _, StableI.det _, StableI.det _, StableI.det _, StableI.det _, StableI.det _, StableI.det _, StableI.det _, StableI.det _, StableI.det _, trivial⟩) ⟨?_, ?_, ?_, ?_, ?_, ?_, ?_, ?_, ?_, ?_, ?_, ?_, ?_, ?_, ?_, ?_, ?_, ?_, ?_, ?_, ?_, ?_, ?_, ?_, trivial⟩ ?_
      ·exact fun _ _ h => os rfl ((yl_loadN (cs := [.string (bs (p_t.Name)), .slice A1 p_t.Cols.length c1, .slice A2 p_t.Idxs.length c2]) Tryz.ty95 rfl (h.old 2 _ rfl rfl) ((Box.ex q270 h.ex).cells (n := 3) rfl) rfl kI))
      ·exact fun _ _ h => os rfl ((yl_fieldAddr Tryz.fd44_1 rfl (h.old 3 _ rfl rfl) kI))
      ·exact fun _ _ h => os rfl ((yl_loadN (cs := [.slice A4 p_a.Old.Vals.length c4]) Tryz.ty42 rfl (h.dt 1 36 rfl rfl rfl) ((Box.ex hB22 h.ex).cells (n := 1) rfl) rfl kI))
      ·intro L298 w299 hi300
       have hE301 := hi300.ex
       refine OpR.op' rfl (yl_call Tryz.en109 rfl (opvs_cons (hi300.dt 0 35 rfl rfl rfl) (opvs_cons (hi300.dt 2 37 rfl rfl rfl) opvs_nil)) (Cal.mono (c_i_Table_isRow p_t p_a.Old (RdS.up (RdS.ex good_Str q272 hE301) good_Str) (RdS.up (RdS.ex good_Idx q274 hE301) good_Idx) (RdS.up (RdS.ex good_Str (RdS.ex good_Str (RdS.ex good_Str h4 hE17) hE23) hE301) good_Str) o3 o6.1) ?_))
       rintro v308 w307 ⟨rfl, hE309⟩
       exact ⟨rfl, hE309⟩
      ·exact fun _ _ h => os rfl ((yl_move rfl (h.dt 3 38 rfl rfl rfl) kI))
      ·exact fun _ _ h => OpR.want rfl rfl (h.dt 4 39 rfl rfl rfl) hb73 (Yl.sameI (yl_loadN (cs := [.string (bs (p_t.Name)), .slice A1 p_t.Cols.length c1, .slice A2 p_t.Idxs.length c2]) Tryz.ty95 rfl (h.old 2 _ rfl rfl) ((Box.ex q270 h.ex).cells (n := 3) rfl) rfl kI))
      ·exact fun _ _ h => OpR.want rfl rfl (h.dt 4 39 rfl rfl rfl) hb73 (Yl.sameI (yl_fieldAddr Tryz.fd44_2 rfl (h.old 3 _ rfl rfl) kI))
      ·exact fun _ _ h => OpR.want rfl rfl (h.dt 4 39 rfl rfl rfl) hb73 (Yl.sameI (yl_loadN (cs := [.slice A5 p_a.New.Vals.length c5]) Tryz.ty42 rfl (h.dt 6 41 rfl rfl rfl) ((Box.ex hB22 h.ex).cells (n := 1) rfl) rfl kI))
      ·intro L335 w336 hi337
       have hE338 := hi337.ex
       refine OpR.want rfl rfl (hi337.dt 4 39 rfl rfl rfl) hb73 (yl_call Tryz.en109 rfl (opvs_cons (hi337.dt 5 40 rfl rfl rfl) (opvs_cons (hi337.dt 7 42 rfl rfl rfl) opvs_nil)) (Cal.mono (c_i_Table_isRow p_t p_a.New (RdS.up (RdS.ex good_Str q272 hE338) good_Str) (RdS.up (RdS.ex good_Idx q274 hE338) good_Idx) (RdS.up (RdS.ex good_Str (RdS.ex good_Str (RdS.ex good_Str h5 hE17) hE23) hE338) good_Str) o3 o6.2) ?_))
       rintro v346 w345 ⟨rfl, hE347⟩
       exact ⟨rfl, hE347⟩
      ·exact fun _ _ h => os rfl ((yl_pick_t rfl (h.dt 4 39 rfl rfl rfl) hb73 (h.dt 8 43 rfl rfl rfl) kI))
      ·exact fun _ _ h => os rfl ((yl_move rfl (h.dt 9 44 rfl rfl rfl) kI))
      ·exact fun _ _ h => OpR.skip rfl rfl (h.dt 10 45 rfl rfl rfl) hb85 ⟨rfl, Ex.refl _⟩
      ·exact fun _ _ h => OpR.skip rfl rfl (h.dt 10 45 rfl rfl rfl) hb85 ⟨rfl, Ex.refl _⟩
      ·exact fun _ _ h => OpR.skip rfl rfl (h.dt 10 45 rfl rfl rfl) hb85 ⟨rfl, Ex.refl _⟩
      ·exact fun _ _ h => OpR.skip rfl rfl (h.dt 10 45 rfl rfl rfl) hb85 ⟨rfl, Ex.refl _⟩
      ·exact fun _ _ h => OpR.skip rfl rfl (h.dt 10 45 rfl rfl rfl) hb85 ⟨rfl, Ex.refl _⟩
      ·exact fun _ _ h => OpR.skip rfl rfl (h.dt 10 45 rfl rfl rfl) hb85 ⟨rfl, Ex.refl _⟩
      ·exact fun _ _ h => OpR.skip rfl rfl (h.dt 10 45 rfl rfl rfl) hb85 ⟨rfl, Ex.refl _⟩
      ·exact fun _ _ h => OpR.skip rfl rfl (h.dt 10 45 rfl rfl rfl) hb85 ⟨rfl, Ex.refl _⟩
      ·exact fun _ _ h => OpR.skip rfl rfl (h.dt 10 45 rfl rfl rfl) hb85 ⟨rfl, Ex.refl _⟩
      ·exact fun _ _ h => OpR.skip rfl rfl (h.dt 10 45 rfl rfl rfl) hb85 ⟨rfl, Ex.refl _⟩
      ·exact fun _ _ h => OpR.skip rfl rfl (h.dt 10 45 rfl rfl rfl) hb85 ⟨rfl, Ex.refl _⟩
      ·exact fun _ _ h => os rfl ((yl_pick_f rfl (h.dt 10 45 rfl rfl rfl) hb85 rfl kI))
      ·exact fun _ _ h => os rfl ((yl_assign rfl (h.dt 22 57 rfl rfl rfl) kI))
      ·intro fl428 fh429 L425 w426 hp427
       have hE430 := hp427.ex
       have hE430z := Ex.size hE430
       refine SeqR.done (tn (CW.sub (Sub.cons (d := 4) (hp427.nt 23 4 rfl rfl rfl) (Sub.nil _)) (CW.ret (br (tr (rr rfl (.cons rfl .nil) ?_))))))
       have hM432 : (i_Table_isRowAct p_t p_a) = (false) := by simp only [i_Table_isRowAct, hb24, hb43, hb64, hb73, hb85, cond_true, cond_false, loopE_done, loopE_ret]
       rw [hM432]
       exact ⟨rfl, (Ex.trans (Ex.trans (Ex.trans (Ex.refl w) hE17) hE23) hE430)⟩
    ·refine CW.drawsI 24 (vgetI [DetI (.agg #[.string (bs (p_t.Name)), .slice A1 p_t.Cols.length c1, .slice A2 p_t.Idxs.length c2]), DetI (.pointer (some ⟨b18, 0 + 1, none⟩)), DetI (.agg #[.slice A4 p_a.Old.Vals.length c4]), DetI (.bool ((i_Table_isRow p_t p_a.Old))), DetI (.bool ((i_Table_isRow p_t p_a.Old))), DetI (undef), DetI (undef), DetI (undef), DetI (undef), DetI (.bool (false)), DetI (.bool (false)), DetI (undef), DetI (undef), DetI (undef), DetI (undef), DetI (undef), DetI (undef), DetI (undef), DetI (undef), DetI (undef), DetI (undef), DetI (undef), DetI (.bool (false)), DetI (.bool (false))]) Tryz.follows rfl rfl rfl rfl rfl rfl (vgetI_stable ⟨StableI.det _, StableI.det _, StableI.det _, StableI.det _, StableI.det _, StableI.det _, StableI.det _, StableI.det _, StableI.det _, StableI.det _, StableI.det _, StableI.det _, StableI.det _, StableI.det _, StableI.det _, StableI.det _, StableI.det _, StableI.det _, StableI.det _, StableI.det _, StableI.det _, StableI.det _, StableI.det _, StableI.det _, trivial⟩) ⟨?_, ?_, ?_, ?_, ?_, ?_, ?_, ?_, ?_, ?_, ?_, ?_, ?_, ?_, ?_, ?_, ?_, ?_, ?_, ?_, ?_, ?_, ?_, ?_, trivial⟩ ?_
     ·exact fun _ _ h => os rfl ((yl_loadN (cs := [.string (bs (p_t.Name)), .slice A1 p_t.Cols.length c1, .slice A2 p_t.Idxs.length c2]) Tryz.ty95 rfl (h.old 2 _ rfl rfl) ((Box.ex (Box.ex hB16 hE23) h.ex).cells (n := 3) rfl) rfl kI))
     ·exact fun _ _ h => os rfl ((yl_fieldAddr Tryz.fd44_1 rfl (h.old 3 _ rfl rfl) kI))
     ·exact fun _ _ h => os rfl ((yl_loadN (cs := [.slice A4 p_a.Old.Vals.length c4]) Tryz.ty42 rfl (h.dt 1 36 rfl rfl rfl) ((Box.ex hB22 h.ex).cells (n := 1) rfl) rfl kI))
     ·intro L461 w462 hi463
      have hE464 := hi463.ex
      refine OpR.op' rfl (yl_call Tryz.en109 rfl (opvs_cons (hi463.dt 0 35 rfl rfl rfl) (opvs_cons (hi463.dt 2 37 rfl rfl rfl) opvs_nil)) (Cal.mono (c_i_Table_isRow p_t p_a.Old (RdS.up (RdS.ex good_Str (RdS.ex good_Str (RdS.ex good_Str h1 hE17) hE23) hE464) good_Str) (RdS.up (RdS.ex good_Idx (RdS.ex good_Idx (RdS.ex good_Idx h2 hE17) hE23) hE464) good_Idx) (RdS.up (RdS.ex good_Str (RdS.ex good_Str (RdS.ex good_Str h4 hE17) hE23) hE464) good_Str) o3 o6.1) ?_))
      rintro v471 w470 ⟨rfl, hE472⟩
      exact ⟨rfl, hE472⟩
     ·exact fun _ _ h => os rfl ((yl_move rfl (h.dt 3 38 rfl rfl rfl) kI))
     ·exact fun _ _ h => OpR.skip rfl rfl (h.dt 4 39 rfl rfl rfl) hb73 ⟨rfl, Ex.refl _⟩
     ·exact fun _ _ h => OpR.skip rfl rfl (h.dt 4 39 rfl rfl rfl) hb73 ⟨rfl, Ex.refl _⟩
     ·exact fun _ _ h => OpR.skip rfl rfl (h.dt 4 39 rfl rfl rfl) hb73 ⟨rfl, Ex.refl _⟩
     ·exact fun _ _ h => OpR.skip rfl rfl (h.dt 4 39 rfl rfl rfl) hb73 ⟨rfl, Ex.refl _⟩
     ·exact fun _ _ h => os rfl ((yl_pick_f rfl (h.dt 4 39 rfl rfl rfl) hb73 rfl kI))
     ·exact fun _ _ h => os rfl ((yl_move rfl (h.dt 9 44 rfl rfl rfl) kI))
     ·exact fun _ _ h => OpR.skip rfl rfl (h.dt 10 45 rfl rfl rfl) rfl ⟨rfl, Ex.refl _⟩
     ·exact fun _ _ h => OpR.skip rfl rfl (h.dt 10 45 rfl rfl rfl) rfl ⟨rfl, Ex.refl _⟩
     ·exact fun _ _ h => OpR.skip rfl rfl (h.dt 10 45 rfl rfl rfl) rfl ⟨rfl, Ex.refl _⟩
     ·exact fun _ _ h => OpR.skip rfl rfl (h.dt 10 45 rfl rfl rfl) rfl ⟨rfl, Ex.refl _⟩
     ·exact fun _ _ h => OpR.skip rfl rfl (h.dt 10 45 rfl rfl rfl) rfl ⟨rfl, Ex.refl _⟩
     ·exact fun _ _ h => OpR.skip rfl rfl (h.dt 10 45 rfl rfl rfl) rfl ⟨rfl, Ex.refl _⟩
     ·exact fun _ _ h => OpR.skip rfl rfl (h.dt 10 45 rfl rfl rfl) rfl ⟨rfl, Ex.refl _⟩
     ·exact fun _ _ h => OpR.skip rfl rfl (h.dt 10 45 rfl rfl rfl) rfl ⟨rfl, Ex.refl _⟩
     ·exact fun _ _ h => OpR.skip rfl rfl (h.dt 10 45 rfl rfl rfl) rfl ⟨rfl, Ex.refl _⟩
     ·exact fun _ _ h => OpR.skip rfl rfl (h.dt 10 45 rfl rfl rfl) rfl ⟨rfl, Ex.refl _⟩
     ·exact fun _ _ h => OpR.skip rfl rfl (h.dt 10 45 rfl rfl rfl) rfl ⟨rfl, Ex.refl _⟩
     ·exact fun _ _ h => os rfl ((yl_pick_f rfl (h.dt 10 45 rfl rfl rfl) rfl rfl kI))
     ·exact fun _ _ h => os rfl ((yl_assign rfl (h.dt 22 57 rfl rfl rfl) kI))
     ·intro fl578 fh579 L575 w576 hp577
      have hE580 := hp577.ex
      have hE580z := Ex.size hE580
      refine SeqR.done (tn (CW.sub (Sub.cons (d := 4) (hp577.nt 23 4 rfl rfl rfl) (Sub.nil _)) (CW.ret (br (tr (rr rfl (.cons rfl .nil) ?_))))))
      have hM582 : (i_Table_isRowAct p_t p_a) = (false) := by simp only [i_Table_isRowAct, hb24, hb43, hb64, hb73, cond_true, cond_false, loopE_done, loopE_ret]
      rw [hM582]
      exact ⟨rfl, (Ex.trans (Ex.trans (Ex.trans (Ex.refl w) hE17) hE23) hE580)⟩
   ·have hb64p := dec_f hb64
    refine CW.cond_f rfl hb64 (CW.skip (bn (tn (CW.seq (CW.region (sd rfl (yl_assign rfl rfl (SeqR.done (tn ?_)))))))))
    refine CW.ret (rr rfl (.cons rfl .nil) ?_)
    have hM586 : (i_Table_isRowAct p_t p_a) = (false) := by simp only [i_Table_isRowAct, hb24, hb43, hb64, cond_true, cond_false, loopE_done, loopE_ret]
    rw [hM586]
    exact ⟨rfl, (Ex.trans (Ex.trans (Ex.refl w) hE17) hE23)⟩
set_option maxRecDepth 100000 in
set_option maxHeartbeats 2000000 in
theorem c_i_isBare {A1 : Option Addr} {c1 : Nat} {A2 : Option Addr} {c2 : Nat} {w : World} (p_a : DRowAct) (h1 : RdS w (Iv 0 w.heap.size) (RF e_Str) 1 A1 p_a.Old.Vals.length c1 p_a.Old.Vals) (h2 : RdS w (Iv 0 w.heap.size) (RF e_Str) 1 A2 p_a.New.Vals.length c2 p_a.New.Vals) (o3 : ok_RowAct p_a) : Cal Tryz.prog 76 #[.agg #[.int .i64 (p_a.Kind), .slice A1 p_a.Old.Vals.length c1, .slice A2 p_a.New.Vals.length c2]] w fun v w' => v = .bool ((i_isBare p_a)) ∧ Ex w w' := by
 have hol4 := o3.1.1
 have hol5 := o3.2.1
 refine Cal.of (vs := [.agg #[.int .i64 (p_a.Kind), .slice A1 p_a.Old.Vals.length c1, .slice A2 p_a.New.Vals.length c2]]) Tryz.func76 rfl Tryz.ntmps76 rfl (CW.seq (CW.region (sd rfl (yl_box (cs := [.int .i64 (p_a.Kind), .slice A1 p_a.Old.Vals.length c1, .slice A2 p_a.New.Vals.length c2]) rfl rfl rfl ?_))))
 intro b6 w7 hs8 hz9 hB10 hE11
 refine sd rfl (yl_assign rfl rfl (SeqR.done (tn (CW.seq (CW.region (sd rfl (yl_fieldAddr Tryz.fd44_0 rfl rfl (sd rfl (yl_load1 Tryz.ty3 rfl rfl ((hB10.cell 0).trans rfl) (sd rfl (yl_eql rfl rfl rfl (sd rfl (yl_move rfl rfl ?_)))))))))))))
 refine bcase (decide (p_a.Kind = 0)) (fun hb12 => ?_) (fun hb12 => ?_)
 ·have hb12p := dec_t hb12
  refine sy rfl rfl hb12 (yl_fieldAddr Tryz.fd44_1 rfl rfl (sy rfl rfl hb12 (yl_fieldAddr Tryz.fd42_0 rfl rfl (sy rfl rfl hb12 (yl_load1 Tryz.ty27 rfl rfl ((hB10.cell 1).trans rfl) (sy rfl rfl hb12 (yl_len Tryz.un27 rfl rfl (sy rfl rfl hb12 (yl_eql rfl rfl rfl (sd rfl (yl_pick_t rfl rfl hb12 rfl (sd rfl (yl_move rfl rfl (bcase (decide ((p_a.Old.Vals.length : Int) = 0)) (fun hb13 => ?_) (fun hb13 => ?_)))))))))))))))
  ·have hb13p := dec_t hb13
   refine sy rfl rfl hb13 (yl_fieldAddr Tryz.fd44_2 rfl rfl (sy rfl rfl hb13 (yl_fieldAddr Tryz.fd42_0 rfl rfl (sy rfl rfl hb13 (yl_load1 Tryz.ty27 rfl rfl ((hB10.cell 2).trans rfl) (sy rfl rfl hb13 (yl_len Tryz.un27 rfl rfl (sy rfl rfl hb13 (yl_eql rfl rfl rfl (sd rfl (yl_pick_t rfl rfl hb13 rfl (sd rfl (yl_assign rfl rfl (SeqR.done (tn ?_)))))))))))))))
   refine CW.ret (rr rfl (.cons rfl .nil) ?_)
   have hM14 : (i_isBare p_a) = (decide ((p_a.New.Vals.length : Int) = 0)) := by simp only [i_isBare, hb12, hb13, cond_true, cond_false, loopE_done, loopE_ret]
   rw [hM14]
   exact ⟨rfl, (Ex.trans (Ex.refl w) hE11)⟩
  ·have hb13p := dec_f hb13
   refine sz rfl rfl hb13 (sz rfl rfl hb13 (sz rfl rfl hb13 (sz rfl rfl hb13 (sz rfl rfl hb13 (sd rfl (yl_pick_f rfl rfl hb13 rfl (sd rfl (yl_assign rfl rfl (SeqR.done (tn ?_))))))))))
   refine CW.ret (rr rfl (.cons rfl .nil) ?_)
   have hM16 : (i_isBare p_a) = (false) := by simp only [i_isBare, hb12, hb13, cond_true, cond_false, loopE_done, loopE_ret]
   rw [hM16]
   exact ⟨rfl, (Ex.trans (Ex.refl w) hE11)⟩
 ·have hb12p := dec_f hb12
  refine sz rfl rfl hb12 (sz rfl rfl hb12 (sz rfl rfl hb12 (sz rfl rfl hb12 (sz rfl rfl hb12 (sd rfl (yl_pick_f rfl rfl hb12 rfl (sd rfl (yl_move rfl rfl (sz rfl rfl rfl (sz rfl rfl rfl ?_))))))))))
  refine sz rfl rfl rfl (sz rfl rfl rfl (sz rfl rfl rfl (sd rfl (yl_pick_f rfl rfl rfl rfl (sd rfl (yl_assign rfl rfl (SeqR.done (tn (CW.ret (rr rfl (.cons rfl .nil) ?_))))))))))
  have hM18 : (i_isBare p_a) = (false) := by simp only [i_isBare, hb12, cond_true, cond_false, loopE_done, loopE_ret]
  rw [hM18]
  exact ⟨rfl, (Ex.trans (Ex.refl w) hE11)⟩
set_option maxRecDepth 100000 in
set_option maxHeartbeats 2000000 in
theorem c_i_Shift_isShiftAct {A1 : Option Addr} {c1 : Nat} {A2 : Option Addr} {c2 : Nat} {A3 : Option Addr} {c3 : Nat} {A5 : Option Addr} {c5 : Nat} {A6 : Option Addr} {c6 : Nat} {w : World} (p_c : DShift) (p_a : DShiftAct) (h1 : RdS w (Iv 0 w.heap.size) R_Table 3 A1 p_c.Ways.length c1 p_c.Ways) (h2 : RdS w (Iv 0 w.heap.size) (RF e_Int) 1 A2 p_c.At.length c2 p_c.At) (h3 : RdS w (Iv 0 w.heap.size) (RF e_Write) 3 A3 p_c.Store.length c3 p_c.Store) (h5 : RdS w (Iv 0 w.heap.size) (RF e_Str) 1 A5 p_a.Act.Old.Vals.length c5 p_a.Act.Old.Vals) (h6 : RdS w (Iv 0 w.heap.size) (RF e_Str) 1 A6 p_a.Act.New.Vals.length c6 p_a.Act.New.Vals) (o4 : ok_Shift p_c) (o7 : ok_ShiftAct p_a) (pre0 : ShiftOk p_c) : Cal Tryz.prog 35 #[.agg #[.string (bs (p_c.Name)), .slice A1 p_c.Ways.length c1, .slice A2 p_c.At.length c2, .slice A3 p_c.Store.length c3], .agg #[.int .i64 (p_a.Server), .int .i64 (p_a.Step), .int .i64 (p_a.Act.Kind), .slice A5 p_a.Act.Old.Vals.length c5, .slice A6 p_a.Act.New.Vals.length c6]] w fun v w' => v = .bool ((i_Shift_isShiftAct p_c p_a)) ∧ Ex w w' := by
 have hol8 : p_c.Name.length ≤ 1073741824 := o4.1
 have hol9 := o4.2.1.1
 have hol10 := o4.2.2.1.1
 have hol11 := o4.2.2.2.1
 have hol12 := o7.1.1
 have hol13 := o7.2.1
 refine Cal.of (vs := [.agg #[.string (bs (p_c.Name)), .slice A1 p_c.Ways.length c1, .slice A2 p_c.At.length c2, .slice A3 p_c.Store.length c3], .agg #[.int .i64 (p_a.Server), .int .i64 (p_a.Step), .int .i64 (p_a.Act.Kind), .slice A5 p_a.Act.Old.Vals.length c5, .slice A6 p_a.Act.New.Vals.length c6]]) Tryz.func35 rfl Tryz.ntmps35 rfl (CW.seq (CW.region (sd rfl (yl_box (cs := [.string (bs (p_c.Name)), .slice A1 p_c.Ways.length c1, .slice A2 p_c.At.length c2, .slice A3 p_c.Store.length c3]) rfl rfl rfl ?_))))
 intro b14 w15 hs16 hz17 hB18 hE19
 refine sd rfl (yl_box (cs := [.int .i64 (p_a.Server), .int .i64 (p_a.Step), .int .i64 (p_a.Act.Kind), .slice A5 p_a.Act.Old.Vals.length c5, .slice A6 p_a.Act.New.Vals.length c6]) rfl rfl rfl ?_)
 intro b20 w21 hs22 hz23 hB24 hE25
 refine sd rfl (yl_assign rfl rfl (SeqR.done (tn (CW.seq (CW.seq (CW.region (sd rfl (yl_fieldAddr Tryz.fd46_0 rfl rfl (sd rfl (yl_load1 Tryz.ty3 rfl rfl ((hB24.cell 0).trans rfl) (sd rfl (yl_fieldAddr Tryz.fd40_2 rfl rfl ?_))))))))))))
 have q26 := Box.ex hB18 hE25
 refine sd rfl (yl_load1 Tryz.ty23 rfl rfl ((q26.cell 2).trans rfl) (sd rfl (yl_len Tryz.un23 rfl rfl (sd rfl (yl_sub rfl rfl rfl (sd rfl (yl_call Tryz.en63 rfl (opvs_cons rfl (opvs_cons rfl (opvs_cons rfl opvs_nil))) (Cal.mono (c_i_within p_a.Server 0 (IntKind.wrap .i64 ((p_c.At.length : Int) - 1))) ?_))))))))
 rintro v28 w27 ⟨rfl, hE29⟩
 have hE29z := Ex.size hE29
 refine sd rfl (yl_not rfl rfl (SeqR.done (tn (bcase (i_within p_a.Server 0 (IntKind.wrap .i64 ((p_c.At.length : Int) - 1))) (fun hb30 => ?_) (fun hb30 => ?_)))))
 ·have hb30p := ShiftOk.srv pre0 hb30
  refine CW.cond_f rfl (not_t hb30) (CW.skip (tn (CW.seq (CW.seq (CW.region (sd rfl (yl_fieldAddr Tryz.fd46_1 rfl rfl ?_)))))))
  have q31 := Box.ex hB24 hE29
  refine sd rfl (yl_load1 Tryz.ty3 rfl rfl ((q31.cell 1).trans rfl) (sd rfl (yl_eql rfl rfl rfl (SeqR.done (tn (bcase (decide (p_a.Step = 0)) (fun hb32 => ?_) (fun hb32 => ?_)))))))
  ·have hb32p := dec_t hb32
   refine CW.cond_t rfl hb32 (CW.seq (CW.drawsI 8 (vgetI [DetI (.agg #[.string (bs (p_c.Name)), .slice A1 p_c.Ways.length c1, .slice A2 p_c.At.length c2, .slice A3 p_c.Store.length c3]), DetI (.pointer (some ⟨b20, 0 + 0, none⟩)), DetI (.int .i64 (p_a.Server)), fun lo hi v wq => ∃ A44 c44 A45 c45, v = .agg #[.string (bs ((i_Shift_table p_c p_a.Server).Name)), .slice A44 (((i_Shift_table p_c p_a.Server).Cols).length) c44, .slice A45 (((i_Shift_table p_c p_a.Server).Idxs).length) c45] ∧ RdS wq Any (RF e_Str) 1 A44 ((i_Shift_table p_c p_a.Server).Cols).length c44 ((i_Shift_table p_c p_a.Server).Cols) ∧ RdS wq Any (RF e_Idx) 3 A45 ((i_Shift_table p_c p_a.Server).Idxs).length c45 ((i_Shift_table p_c p_a.Server).Idxs) ∧ ok_Table (i_Shift_table p_c p_a.Server), DetI (.pointer (some ⟨b20, 0 + 2, none⟩)), DetI (.agg #[.int .i64 (p_a.Act.Kind), .slice A5 p_a.Act.Old.Vals.length c5, .slice A6 p_a.Act.New.Vals.length c6]), DetI (.bool ((i_Table_isRowAct (i_Shift_table p_c p_a.Server) p_a.Act))), DetI (.bool ((i_Table_isRowAct (i_Shift_table p_c p_a.Server) p_a.Act)))]) Tryz.follows rfl rfl rfl rfl rfl rfl (vgetI_stable ⟨StableI.det _, StableI.det _, StableI.det _, (fun _ _ _ _ _ ⟨A44, c44, A45, c45, hv, h44, h45, ho46⟩ e => ⟨A44, c44, A45, c45, hv, RdS.ex good_Str h44 e, RdS.ex good_Idx h45 e, ho46⟩), StableI.det _, StableI.det _, StableI.det _, StableI.det _, trivial⟩) ⟨?_, ?_, ?_, ?_, ?_, ?_, ?_, ?_, trivial⟩ ?_))
   ·exact fun _ _ h => os rfl ((yl_loadN (cs := [.string (bs (p_c.Name)), .slice A1 p_c.Ways.length c1, .slice A2 p_c.At.length c2, .slice A3 p_c.Store.length c3]) Tryz.ty40 rfl (h.old 2 _ rfl rfl) ((Box.ex (Box.ex q26 hE29) h.ex).cells (n := 4) rfl) rfl kI))
   ·exact fun _ _ h => os rfl ((yl_fieldAddr Tryz.fd46_0 rfl (h.old 3 _ rfl rfl) kI))
   ·exact fun _ _ h => os rfl ((yl_load1 Tryz.ty3 rfl (h.dt 1 17 rfl rfl rfl) (((Box.ex q31 h.ex).cell 0).trans rfl) kI))
   ·intro L71 w72 hi73
    have hE74 := hi73.ex
    have hE74z := Ex.size hE74
    refine OpR.op' rfl (yl_call Tryz.en74 rfl (opvs_cons (hi73.dt 0 16 rfl rfl rfl) (opvs_cons (hi73.dt 2 18 rfl rfl rfl) opvs_nil)) (Cal.mono (c_i_Shift_table p_c p_a.Server (RdS.up (RdS.ex good_Table (RdS.ex good_Table (RdS.ex good_Table (RdS.ex good_Table h1 hE19) hE25) hE29) hE74) good_Table) (RdS.up (RdS.ex good_Int (RdS.ex good_Int (RdS.ex good_Int (RdS.ex good_Int h2 hE19) hE25) hE29) hE74) good_Int) (RdS.up (RdS.ex good_Write (RdS.ex good_Write (RdS.ex good_Write (RdS.ex good_Write h3 hE19) hE25) hE29) hE74) good_Write) o4 (by first | omega | assumption | (simp only [IntKind.wrap_i64] at *; omega)) (by first | omega | assumption | (simp only [IntKind.wrap_i64] at *; omega))) ?_))
    rintro v84 w80 ⟨A81, c81, A82, c82, rfl, h81, h82, ho83, hE85⟩
    exact ⟨⟨A81, c81, A82, c82, rfl, RdS.wide good_Str h81 (fun _ hh _ => trivial), RdS.wide good_Idx h82 (fun _ hh _ => trivial), ho83⟩, hE85⟩
   ·exact fun _ _ h => os rfl ((yl_fieldAddr Tryz.fd46_2 rfl (h.old 3 _ rfl rfl) kI))
   ·exact fun _ _ h => os rfl ((yl_loadN (cs := [.int .i64 (p_a.Act.Kind), .slice A5 p_a.Act.Old.Vals.length c5, .slice A6 p_a.Act.New.Vals.length c6]) Tryz.ty44 rfl (h.dt 4 20 rfl rfl rfl) ((Box.ex q31 h.ex).cells (n := 3) rfl) rfl kI))
   ·intro L97 w98 hi99
    have hE100 := hi99.ex
    have hE100z := Ex.size hE100
    obtain ⟨lo102, hh103, _, hx101, hr104, hr105, hr106, A44_107, c44_108, A45_109, c45_110, rfl, h111, h112, h113⟩ := hi99.dep 3 19 rfl rfl
    refine OpR.op' rfl (yl_call Tryz.en75 rfl (opvs_cons hx101 (opvs_cons (hi99.dt 5 21 rfl rfl rfl) opvs_nil)) (Cal.mono (c_i_Table_isRowAct (i_Shift_table p_c p_a.Server) p_a.Act (RdS.up h111 good_Str) (RdS.up h112 good_Idx) (RdS.up (RdS.ex good_Str (RdS.ex good_Str (RdS.ex good_Str (RdS.ex good_Str h5 hE19) hE25) hE29) hE100) good_Str) (RdS.up (RdS.ex good_Str (RdS.ex good_Str (RdS.ex good_Str (RdS.ex good_Str h6 hE19) hE25) hE29) hE100) good_Str) h113 o7 (by first | omega | assumption | (simp only [IntKind.wrap_i64] at *; omega))) ?_))
    rintro v118 w117 ⟨rfl, hE119⟩
    exact ⟨rfl, hE119⟩
   ·exact fun _ _ h => os rfl ((yl_assign rfl (h.dt 6 22 rfl rfl rfl) kI))
   ·intro fl128 fh129 L125 w126 hp127
    have hE130 := hp127.ex
    have hE130z := Ex.size hE130
    refine SeqR.done (tn (CW.sub (Sub.cons (d := 4) (hp127.nt 7 4 rfl rfl rfl) (Sub.nil _)) (CW.ret (tr (rr rfl (.cons rfl .nil) ?_)))))
    have hM132 : (i_Shift_isShiftAct p_c p_a) = ((i_Table_isRowAct (i_Shift_table p_c p_a.Server) p_a.Act)) := by simp only [i_Shift_isShiftAct, hb30, hb32, cond_true, cond_false, loopE_done, loopE_ret]
    rw [hM132]
    exact ⟨rfl, (Ex.trans (Ex.trans (Ex.trans (Ex.trans (Ex.refl w) hE19) hE25) hE29) hE130)⟩
  ·have hb32p := dec_f hb32
   refine CW.cond_f rfl hb32 (CW.skip (tn (CW.seq (CW.region (sd rfl (yl_fieldAddr Tryz.fd46_1 rfl rfl (sd rfl (yl_load1 Tryz.ty3 rfl rfl ((q31.cell 1).trans rfl) (sd rfl (yl_eql rfl rfl rfl (sd rfl (yl_move rfl rfl ?_))))))))))))
   refine bcase (decide (p_a.Step = 1)) (fun hb137 => ?_) (fun hb137 => ?_)
   ·have hb137p := dec_t hb137
    refine sz rfl rfl hb137 (sz rfl rfl hb137 (sz rfl rfl hb137 (sd rfl (yl_pick_t rfl rfl hb137 rfl (sd rfl (yl_move rfl rfl (sy rfl rfl rfl (yl_fieldAddr Tryz.fd46_2 rfl rfl (sy rfl rfl rfl (yl_loadN (cs := [.int .i64 (p_a.Act.Kind), .slice A5 p_a.Act.Old.Vals.length c5, .slice A6 p_a.Act.New.Vals.length c6]) Tryz.ty44 rfl rfl (q31.cells (n := 3) rfl) rfl (sy rfl rfl rfl (yl_call Tryz.en76 rfl (opvs_cons rfl opvs_nil) (Cal.mono (c_i_isBare p_a.Act (RdS.up (RdS.ex good_Str (RdS.ex good_Str (RdS.ex good_Str h5 hE19) hE25) hE29) good_Str) (RdS.up (RdS.ex good_Str (RdS.ex good_Str (RdS.ex good_Str h6 hE19) hE25) hE29) good_Str) o7) ?_)))))))))))))
    rintro v145 w144 ⟨rfl, hE146⟩
    have hE146z := Ex.size hE146
    refine sd rfl (yl_pick_t rfl rfl rfl rfl (sd rfl (yl_assign rfl rfl (SeqR.done (tn (CW.ret (rr rfl (.cons rfl .nil) ?_)))))))
    have hM147 : (i_Shift_isShiftAct p_c p_a) = ((i_isBare p_a.Act)) := by simp only [i_Shift_isShiftAct, hb30, hb32, hb137, cond_true, cond_false, loopE_done, loopE_ret]
    rw [hM147]
    exact ⟨rfl, (Ex.trans (Ex.trans (Ex.trans (Ex.trans (Ex.refl w) hE19) hE25) hE29) hE146)⟩
   ·have hb137p := dec_f hb137
    refine sy rfl rfl hb137 (yl_fieldAddr Tryz.fd46_1 rfl rfl (sy rfl rfl hb137 (yl_load1 Tryz.ty3 rfl rfl ((q31.cell 1).trans rfl) (sy rfl rfl hb137 (yl_eql rfl rfl rfl (sd rfl (yl_pick_f rfl rfl hb137 rfl (sd rfl (yl_move rfl rfl (bcase (decide (p_a.Step = (-1))) (fun hb152 => ?_) (fun hb152 => ?_)))))))))))
    ·have hb152p := dec_t hb152
     refine sy rfl rfl hb152 (yl_fieldAddr Tryz.fd46_2 rfl rfl (sy rfl rfl hb152 (yl_loadN (cs := [.int .i64 (p_a.Act.Kind), .slice A5 p_a.Act.Old.Vals.length c5, .slice A6 p_a.Act.New.Vals.length c6]) Tryz.ty44 rfl rfl (q31.cells (n := 3) rfl) rfl (sy rfl rfl hb152 (yl_call Tryz.en76 rfl (opvs_cons rfl opvs_nil) (Cal.mono (c_i_isBare p_a.Act (RdS.up (RdS.ex good_Str (RdS.ex good_Str (RdS.ex good_Str h5 hE19) hE25) hE29) good_Str) (RdS.up (RdS.ex good_Str (RdS.ex good_Str (RdS.ex good_Str h6 hE19) hE25) hE29) good_Str) o7) ?_))))))
     rintro v160 w159 ⟨rfl, hE161⟩
     have hE161z := Ex.size hE161
     refine sd rfl (yl_pick_t rfl rfl hb152 rfl (sd rfl (yl_assign rfl rfl (SeqR.done (tn (CW.ret (rr rfl (.cons rfl .nil) ?_)))))))
     have hM162 : (i_Shift_isShiftAct p_c p_a) = ((i_isBare p_a.Act)) := by simp only [i_Shift_isShiftAct, hb30, hb32, hb137, hb152, cond_true, cond_false, loopE_done, loopE_ret]
     rw [hM162]
     exact ⟨rfl, (Ex.trans (Ex.trans (Ex.trans (Ex.trans (Ex.refl w) hE19) hE25) hE29) hE161)⟩
    ·have hb152p := dec_f hb152
     refine sz rfl rfl hb152 (sz rfl rfl hb152 (sz rfl rfl hb152 (sd rfl (yl_pick_f rfl rfl hb152 rfl (sd rfl (yl_assign rfl rfl (SeqR.done (tn (CW.ret (rr rfl (.cons rfl .nil) ?_))))))))))
     have hM167 : (i_Shift_isShiftAct p_c p_a) = (false) := by simp only [i_Shift_isShiftAct, hb30, hb32, hb137, hb152, cond_true, cond_false, loopE_done, loopE_ret]
     rw [hM167]
     exact ⟨rfl, (Ex.trans (Ex.trans (Ex.trans (Ex.refl w) hE19) hE25) hE29)⟩
 ·refine CW.cond_t rfl (not_f hb30) (CW.seq (CW.region (sd rfl (yl_assign rfl rfl (SeqR.done (tn (CW.ret (tr (rr rfl (.cons rfl .nil) ?_)))))))))
  have hM171 : (i_Shift_isShiftAct p_c p_a) = (false) := by simp only [i_Shift_isShiftAct, hb30, cond_true, cond_false, loopE_done, loopE_ret]
  rw [hM171]
  exact ⟨rfl, (Ex.trans (Ex.trans (Ex.trans (Ex.refl w) hE19) hE25) hE29)⟩
set_option maxRecDepth 100000 in
set_option maxHeartbeats 2000000 in
theorem c_i_Work_isWorkAct {A1 : Option Addr} {c1 : Nat} {A2 : Option Addr} {c2 : Nat} {A3 : Option Addr} {c3 : Nat} {A5 : Option Addr} {c5 : Nat} {A6 : Option Addr} {c6 : Nat} {w : World} (p_w : DWork) (p_a : DWorkAct) (h1 : RdS w (Iv 0 w.heap.size) R_Table 3 A1 p_w.Shift.Ways.length c1 p_w.Shift.Ways) (h2 : RdS w (Iv 0 w.heap.size) (RF e_Int) 1 A2 p_w.Shift.At.length c2 p_w.Shift.At) (h3 : RdS w (Iv 0 w.heap.size) (RF e_Write) 3 A3 p_w.Shift.Store.length c3 p_w.Shift.Store) (h5 : RdS w (Iv 0 w.heap.size) (RF e_Str) 1 A5 p_a.Act.Act.Old.Vals.length c5 p_a.Act.Act.Old.Vals) (h6 : RdS w (Iv 0 w.heap.size) (RF e_Str) 1 A6 p_a.Act.Act.New.Vals.length c6 p_a.Act.Act.New.Vals) (o4 : ok_Work p_w) (o7 : ok_WorkAct p_a) (pre0 : ShiftOk p_w.Shift) : Cal Tryz.prog 45 #[.agg #[.string (bs (p_w.Shift.Name)), .slice A1 p_w.Shift.Ways.length c1, .slice A2 p_w.Shift.At.length c2, .slice A3 p_w.Shift.Store.length c3, .string (bs (p_w.Up.Last)), .bool (p_w.Up.Over), .string (bs (p_w.Down.Last)), .bool (p_w.Down.Over)], .agg #[.int .i64 (p_a.Kind), .int .i64 (p_a.Many), .int .i64 (p_a.Act.Server), .int .i64 (p_a.Act.Step), .int .i64 (p_a.Act.Act.Kind), .slice A5 p_a.Act.Act.Old.Vals.length c5, .slice A6 p_a.Act.Act.New.Vals.length c6]] w fun v w' => v = .bool ((i_Work_isWorkAct p_w p_a)) ∧ Ex w w' := by
 have hol8 : p_w.Shift.Name.length ≤ 1073741824 := o4.1.1
 have hol9 := o4.1.2.1.1
 have hol10 := o4.1.2.2.1.1
 have hol11 := o4.1.2.2.2.1
 have hol12 : p_w.Up.Last.length ≤ 1073741824 := o4.2.1
 have hol13 : p_w.Down.Last.length ≤ 1073741824 := o4.2.2
 have hol14 := o7.1.1
 have hol15 := o7.2.1
 refine Cal.of (vs := [.agg #[.string (bs (p_w.Shift.Name)), .slice A1 p_w.Shift.Ways.length c1, .slice A2 p_w.Shift.At.length c2, .slice A3 p_w.Shift.Store.length c3, .string (bs (p_w.Up.Last)), .bool (p_w.Up.Over), .string (bs (p_w.Down.Last)), .bool (p_w.Down.Over)], .agg #[.int .i64 (p_a.Kind), .int .i64 (p_a.Many), .int .i64 (p_a.Act.Server), .int .i64 (p_a.Act.Step), .int .i64 (p_a.Act.Act.Kind), .slice A5 p_a.Act.Act.Old.Vals.length c5, .slice A6 p_a.Act.Act.New.Vals.length c6]]) Tryz.func45 rfl Tryz.ntmps45 rfl (CW.seq (CW.region (sd rfl (yl_box (cs := [.string (bs (p_w.Shift.Name)), .slice A1 p_w.Shift.Ways.length c1, .slice A2 p_w.Shift.At.length c2, .slice A3 p_w.Shift.Store.length c3, .string (bs (p_w.Up.Last)), .bool (p_w.Up.Over), .string (bs (p_w.Down.Last)), .bool (p_w.Down.Over)]) rfl rfl rfl ?_))))
 intro b16 w17 hs18 hz19 hB20 hE21
 refine sd rfl (yl_box (cs := [.int .i64 (p_a.Kind), .int .i64 (p_a.Many), .int .i64 (p_a.Act.Server), .int .i64 (p_a.Act.Step), .int .i64 (p_a.Act.Act.Kind), .slice A5 p_a.Act.Act.Old.Vals.length c5, .slice A6 p_a.Act.Act.New.Vals.length c6]) rfl rfl rfl ?_)
 intro b22 w23 hs24 hz25 hB26 hE27
 refine sd rfl (yl_assign rfl rfl (SeqR.done (tn (CW.seq (CW.seq (CW.region (sd rfl (yl_fieldAddr Tryz.fd65_0 rfl rfl (sd rfl (yl_load1 Tryz.ty3 rfl rfl ((hB26.cell 0).trans rfl) (SeqR.done ?_)))))))))))
 refine tn (CW.block (CW.seq (CW.region (sd rfl (yl_eql rfl rfl rfl (sd rfl (yl_assign rfl rfl (SeqR.done (tn (bcase (decide (p_a.Kind = 1)) (fun hb28 => ?_) (fun hb28 => ?_)))))))))))
 ·have hb28p := dec_t hb28
  refine CW.cond_t rfl hb28 (CW.seq (CW.region (sd rfl (yl_fieldAddr Tryz.fd65_1 rfl rfl (sd rfl (yl_load1 Tryz.ty3 rfl rfl ((hB26.cell 1).trans rfl) (sd rfl (yl_eql rfl rfl rfl (sd rfl (yl_move rfl rfl (bcase (decide (p_a.Many = 0)) (fun hb29 => ?_) (fun hb29 => ?_))))))))))))
  ·have hb29p := dec_t hb29
   refine sy rfl rfl hb29 (yl_fieldAddr Tryz.fd62_0 rfl rfl (sy rfl rfl hb29 (yl_loadN (cs := [.string (bs (p_w.Shift.Name)), .slice A1 p_w.Shift.Ways.length c1, .slice A2 p_w.Shift.At.length c2, .slice A3 p_w.Shift.Store.length c3]) Tryz.ty40 rfl rfl ((Box.ex hB20 hE27).cells (n := 4) rfl) rfl (sy rfl rfl hb29 (yl_fieldAddr Tryz.fd65_2 rfl rfl (sy rfl rfl hb29 (yl_loadN (cs := [.int .i64 (p_a.Act.Server), .int .i64 (p_a.Act.Step), .int .i64 (p_a.Act.Act.Kind), .slice A5 p_a.Act.Act.Old.Vals.length c5, .slice A6 p_a.Act.Act.New.Vals.length c6]) Tryz.ty46 rfl rfl (hB26.cells (n := 5) rfl) rfl (sy rfl rfl hb29 (yl_call Tryz.en35 rfl (opvs_cons rfl (opvs_cons rfl opvs_nil)) (Cal.mono (c_i_Shift_isShiftAct p_w.Shift p_a.Act (RdS.up (RdS.ex good_Table (RdS.ex good_Table h1 hE21) hE27) good_Table) (RdS.up (RdS.ex good_Int (RdS.ex good_Int h2 hE21) hE27) good_Int) (RdS.up (RdS.ex good_Write (RdS.ex good_Write h3 hE21) hE27) good_Write) (RdS.up (RdS.ex good_Str (RdS.ex good_Str h5 hE21) hE27) good_Str) (RdS.up (RdS.ex good_Str (RdS.ex good_Str h6 hE21) hE27) good_Str) o4.1 o7 (by first | omega | assumption | (simp only [IntKind.wrap_i64] at *; omega))) ?_))))))))))
   rintro v42 w41 ⟨rfl, hE43⟩
   have hE43z := Ex.size hE43
   refine sd rfl (yl_pick_t rfl rfl hb29 rfl (sd rfl (yl_assign rfl rfl (SeqR.done (tn (CW.ret (br (tr (rr rfl (.cons rfl .nil) ?_)))))))))
   have hM44 : (i_Work_isWorkAct p_w p_a) = ((i_Shift_isShiftAct p_w.Shift p_a.Act)) := by simp only [i_Work_isWorkAct, hb28, hb29, cond_true, cond_false, loopE_done, loopE_ret]
   rw [hM44]
   exact ⟨rfl, (Ex.trans (Ex.trans (Ex.trans (Ex.refl w) hE21) hE27) hE43)⟩
  ·have hb29p := dec_f hb29
   refine sz rfl rfl hb29 (sz rfl rfl hb29 (sz rfl rfl hb29 (sz rfl rfl hb29 (sz rfl rfl hb29 (sd rfl (yl_pick_f rfl rfl hb29 rfl (sd rfl (yl_assign rfl rfl (SeqR.done (tn ?_))))))))))
   refine CW.ret (br (tr (rr rfl (.cons rfl .nil) ?_)))
   have hM48 : (i_Work_isWorkAct p_w p_a) = (false) := by simp only [i_Work_isWorkAct, hb28, hb29, cond_true, cond_false, loopE_done, loopE_ret]
   rw [hM48]
   exact ⟨rfl, (Ex.trans (Ex.trans (Ex.refl w) hE21) hE27)⟩
 ·have hb28p := dec_f hb28
  refine CW.cond_f rfl hb28 (CW.seq (CW.seq (CW.region (sd rfl (yl_eql rfl rfl rfl (sd rfl (yl_assign rfl rfl (SeqR.done (tn (bcase (decide (p_a.Kind = 2)) (fun hb51 => ?_) (fun hb51 => ?_)))))))))))
  ·have hb51p := dec_t hb51
   refine CW.cond_t rfl hb51 (CW.skip (tn (CW.cond_t rfl hb51 (CW.seq (CW.region (sd rfl (yl_fieldAddr Tryz.fd65_1 rfl rfl (sd rfl (yl_load1 Tryz.ty3 rfl rfl ((hB26.cell 1).trans rfl) (sd rfl (yl_call Tryz.en63 rfl (opvs_cons rfl (opvs_cons rfl (opvs_cons rfl opvs_nil))) (Cal.mono (c_i_within p_a.Many 1 24) ?_))))))))))))
   rintro v53 w52 ⟨rfl, hE54⟩
   have hE54z := Ex.size hE54
   refine sd rfl (yl_move rfl rfl (bcase (i_within p_a.Many 1 24) (fun hb55 => ?_) (fun hb55 => ?_)))
   ·have hb55p := f_within hb55
    refine sy rfl rfl hb55 (yl_fieldAddr Tryz.fd65_2 rfl rfl (sy rfl rfl hb55 (yl_fieldAddr Tryz.fd46_0 rfl rfl ?_)))
    have q56 := Box.ex hB26 hE54
    refine sy rfl rfl hb55 (yl_load1 Tryz.ty3 rfl rfl ((q56.cell 2).trans rfl) (sy rfl rfl hb55 (yl_eql rfl rfl rfl (sd rfl (yl_pick_t rfl rfl hb55 rfl (sd rfl (yl_move rfl rfl (bcase (decide (p_a.Act.Server = 0)) (fun hb57 => ?_) (fun hb57 => ?_)))))))))
    ·have hb57p := dec_t hb57
     refine sy rfl rfl hb57 (yl_fieldAddr Tryz.fd65_2 rfl rfl (sy rfl rfl hb57 (yl_fieldAddr Tryz.fd46_1 rfl rfl (sy rfl rfl hb57 (yl_load1 Tryz.ty3 rfl rfl ((q56.cell 3).trans rfl) (sy rfl rfl hb57 (yl_eql rfl rfl rfl (sd rfl (yl_pick_t rfl rfl hb57 rfl (sd rfl (yl_move rfl rfl (bcase (decide (p_a.Act.Step = 0)) (fun hb58 => ?_) (fun hb58 => ?_)))))))))))))
     ·have hb58p := dec_t hb58
      refine sy rfl rfl hb58 (yl_fieldAddr Tryz.fd65_2 rfl rfl (sy rfl rfl hb58 (yl_fieldAddr Tryz.fd46_2 rfl rfl (sy rfl rfl hb58 (yl_loadN (cs := [.int .i64 (p_a.Act.Act.Kind), .slice A5 p_a.Act.Act.Old.Vals.length c5, .slice A6 p_a.Act.Act.New.Vals.length c6]) Tryz.ty44 rfl rfl (q56.cells (n := 3) rfl) rfl (sy rfl rfl hb58 (yl_call Tryz.en76 rfl (opvs_cons rfl opvs_nil) (Cal.mono (c_i_isBare p_a.Act.Act (RdS.up (RdS.ex good_Str (RdS.ex good_Str (RdS.ex good_Str h5 hE21) hE27) hE54) good_Str) (RdS.up (RdS.ex good_Str (RdS.ex good_Str (RdS.ex good_Str h6 hE21) hE27) hE54) good_Str) o7) ?_))))))))
      rintro v66 w65 ⟨rfl, hE67⟩
      have hE67z := Ex.size hE67
      refine sd rfl (yl_pick_t rfl rfl hb58 rfl (sd rfl (yl_assign rfl rfl (SeqR.done (tn (CW.ret (br (tr (rr rfl (.cons rfl .nil) ?_)))))))))
      have hM68 : (i_Work_isWorkAct p_w p_a) = ((i_isBare p_a.Act.Act)) := by simp only [i_Work_isWorkAct, hb28, hb51, hb55, hb57, hb58, cond_true, cond_false, loopE_done, loopE_ret]
      rw [hM68]
      exact ⟨rfl, (Ex.trans (Ex.trans (Ex.trans (Ex.trans (Ex.refl w) hE21) hE27) hE54) hE67)⟩
     ·have hb58p := dec_f hb58
      refine sz rfl rfl hb58 (sz rfl rfl hb58 (sz rfl rfl hb58 (sz rfl rfl hb58 (sd rfl (yl_pick_f rfl rfl hb58 rfl (sd rfl (yl_assign rfl rfl (SeqR.done (tn (CW.ret ?_))))))))))
      refine br (tr (rr rfl (.cons rfl .nil) ?_))
      have hM73 : (i_Work_isWorkAct p_w p_a) = (false) := by simp only [i_Work_isWorkAct, hb28, hb51, hb55, hb57, hb58, cond_true, cond_false, loopE_done, loopE_ret]
      rw [hM73]
      exact ⟨rfl, (Ex.trans (Ex.trans (Ex.trans (Ex.refl w) hE21) hE27) hE54)⟩
    ·have hb57p := dec_f hb57
     refine sz rfl rfl hb57 (sz rfl rfl hb57 (sz rfl rfl hb57 (sz rfl rfl hb57 (sd rfl (yl_pick_f rfl rfl hb57 rfl (sd rfl (yl_move rfl rfl (sz rfl rfl rfl (sz rfl rfl rfl (sz rfl rfl rfl ?_))))))))))
     refine sz rfl rfl rfl (sd rfl (yl_pick_f rfl rfl rfl rfl (sd rfl (yl_assign rfl rfl (SeqR.done (tn (CW.ret (br (tr (rr rfl (.cons rfl .nil) ?_))))))))))
     have hM77 : (i_Work_isWorkAct p_w p_a) = (false) := by simp only [i_Work_isWorkAct, hb28, hb51, hb55, hb57, cond_true, cond_false, loopE_done, loopE_ret]
     rw [hM77]
     exact ⟨rfl, (Ex.trans (Ex.trans (Ex.trans (Ex.refl w) hE21) hE27) hE54)⟩
   ·refine sz rfl rfl hb55 (sz rfl rfl hb55 (sz rfl rfl hb55 (sz rfl rfl hb55 (sd rfl (yl_pick_f rfl rfl hb55 rfl (sd rfl (yl_move rfl rfl (sz rfl rfl rfl (sz rfl rfl rfl (sz rfl rfl rfl ?_))))))))))
    refine sz rfl rfl rfl (sd rfl (yl_pick_f rfl rfl rfl rfl (sd rfl (yl_move rfl rfl (sz rfl rfl rfl (sz rfl rfl rfl (sz rfl rfl rfl (sz rfl rfl rfl (sd rfl (yl_pick_f rfl rfl rfl rfl (sd rfl (yl_assign rfl rfl ?_))))))))))))
    refine SeqR.done (tn (CW.ret (br (tr (rr rfl (.cons rfl .nil) ?_)))))
    have hM81 : (i_Work_isWorkAct p_w p_a) = (false) := by simp only [i_Work_isWorkAct, hb28, hb51, hb55, cond_true, cond_false, loopE_done, loopE_ret]
    rw [hM81]
    exact ⟨rfl, (Ex.trans (Ex.trans (Ex.trans (Ex.refl w) hE21) hE27) hE54)⟩
  ·have hb51p := dec_f hb51
   refine CW.cond_f rfl hb51 (CW.region (sd rfl (yl_eql rfl rfl rfl (sd rfl (yl_assign rfl rfl (SeqR.done (tn (bcase (decide (p_a.Kind = 3)) (fun hb85 => ?_) (fun hb85 => ?_)))))))))
   ·have hb85p := dec_t hb85
    refine CW.cond_t rfl hb85 (CW.seq (CW.region (sd rfl (yl_fieldAddr Tryz.fd65_1 rfl rfl (sd rfl (yl_load1 Tryz.ty3 rfl rfl ((hB26.cell 1).trans rfl) (sd rfl (yl_call Tryz.en63 rfl (opvs_cons rfl (opvs_cons rfl (opvs_cons rfl opvs_nil))) (Cal.mono (c_i_within p_a.Many 1 24) ?_)))))))))
    rintro v87 w86 ⟨rfl, hE88⟩
    have hE88z := Ex.size hE88
    refine sd rfl (yl_move rfl rfl (bcase (i_within p_a.Many 1 24) (fun hb89 => ?_) (fun hb89 => ?_)))
    ·have hb89p := f_within hb89
     refine sy rfl rfl hb89 (yl_fieldAddr Tryz.fd65_2 rfl rfl (sy rfl rfl hb89 (yl_fieldAddr Tryz.fd46_0 rfl rfl ?_)))
     have q90 := Box.ex hB26 hE88
     refine sy rfl rfl hb89 (yl_load1 Tryz.ty3 rfl rfl ((q90.cell 2).trans rfl) (sy rfl rfl hb89 (yl_eql rfl rfl rfl (sd rfl (yl_pick_t rfl rfl hb89 rfl (sd rfl (yl_move rfl rfl (bcase (decide (p_a.Act.Server = 0)) (fun hb91 => ?_) (fun hb91 => ?_)))))))))
     ·have hb91p := dec_t hb91
      refine sy rfl rfl hb91 (yl_fieldAddr Tryz.fd65_2 rfl rfl (sy rfl rfl hb91 (yl_fieldAddr Tryz.fd46_1 rfl rfl (sy rfl rfl hb91 (yl_load1 Tryz.ty3 rfl rfl ((q90.cell 3).trans rfl) (sy rfl rfl hb91 (yl_eql rfl rfl rfl (sd rfl (yl_pick_t rfl rfl hb91 rfl (sd rfl (yl_move rfl rfl (bcase (decide (p_a.Act.Step = 0)) (fun hb92 => ?_) (fun hb92 => ?_)))))))))))))
      ·have hb92p := dec_t hb92
       refine sy rfl rfl hb92 (yl_fieldAddr Tryz.fd65_2 rfl rfl (sy rfl rfl hb92 (yl_fieldAddr Tryz.fd46_2 rfl rfl (sy rfl rfl hb92 (yl_loadN (cs := [.int .i64 (p_a.Act.Act.Kind), .slice A5 p_a.Act.Act.Old.Vals.length c5, .slice A6 p_a.Act.Act.New.Vals.length c6]) Tryz.ty44 rfl rfl (q90.cells (n := 3) rfl) rfl (sy rfl rfl hb92 (yl_call Tryz.en76 rfl (opvs_cons rfl opvs_nil) (Cal.mono (c_i_isBare p_a.Act.Act (RdS.up (RdS.ex good_Str (RdS.ex good_Str (RdS.ex good_Str h5 hE21) hE27) hE88) good_Str) (RdS.up (RdS.ex good_Str (RdS.ex good_Str (RdS.ex good_Str h6 hE21) hE27) hE88) good_Str) o7) ?_))))))))
       rintro v100 w99 ⟨rfl, hE101⟩
       have hE101z := Ex.size hE101
       refine sd rfl (yl_pick_t rfl rfl hb92 rfl (sd rfl (yl_assign rfl rfl (SeqR.done (tn (CW.ret (br (tr (rr rfl (.cons rfl .nil) ?_)))))))))
       have hM102 : (i_Work_isWorkAct p_w p_a) = ((i_isBare p_a.Act.Act)) := by simp only [i_Work_isWorkAct, hb28, hb51, hb85, hb89, hb91, hb92, cond_true, cond_false, loopE_done, loopE_ret]
       rw [hM102]
       exact ⟨rfl, (Ex.trans (Ex.trans (Ex.trans (Ex.trans (Ex.refl w) hE21) hE27) hE88) hE101)⟩
      ·have hb92p := dec_f hb92
       refine sz rfl rfl hb92 (sz rfl rfl hb92 (sz rfl rfl hb92 (sz rfl rfl hb92 (sd rfl (yl_pick_f rfl rfl hb92 rfl (sd rfl (yl_assign rfl rfl (SeqR.done (tn (CW.ret ?_))))))))))
       refine br (tr (rr rfl (.cons rfl .nil) ?_))
       have hM107 : (i_Work_isWorkAct p_w p_a) = (false) := by simp only [i_Work_isWorkAct, hb28, hb51, hb85, hb89, hb91, hb92, cond_true, cond_false, loopE_done, loopE_ret]
       rw [hM107]
       exact ⟨rfl, (Ex.trans (Ex.trans (Ex.trans (Ex.refl w) hE21) hE27) hE88)⟩
     ·have hb91p := dec_f hb91
      refine sz rfl rfl hb91 (sz rfl rfl hb91 (sz rfl rfl hb91 (sz rfl rfl hb91 (sd rfl (yl_pick_f rfl rfl hb91 rfl (sd rfl (yl_move rfl rfl (sz rfl rfl rfl (sz rfl rfl rfl (sz rfl rfl rfl ?_))))))))))
      refine sz rfl rfl rfl (sd rfl (yl_pick_f rfl rfl rfl rfl (sd rfl (yl_assign rfl rfl (SeqR.done (tn (CW.ret (br (tr (rr rfl (.cons rfl .nil) ?_))))))))))
      have hM111 : (i_Work_isWorkAct p_w p_a) = (false) := by simp only [i_Work_isWorkAct, hb28, hb51, hb85, hb89, hb91, cond_true, cond_false, loopE_done, loopE_ret]
      rw [hM111]
      exact ⟨rfl, (Ex.trans (Ex.trans (Ex.trans (Ex.refl w) hE21) hE27) hE88)⟩
    ·refine sz rfl rfl hb89 (sz rfl rfl hb89 (sz rfl rfl hb89 (sz rfl rfl hb89 (sd rfl (yl_pick_f rfl rfl hb89 rfl (sd rfl (yl_move rfl rfl (sz rfl rfl rfl (sz rfl rfl rfl (sz rfl rfl rfl ?_))))))))))
     refine sz rfl rfl rfl (sd rfl (yl_pick_f rfl rfl rfl rfl (sd rfl (yl_move rfl rfl (sz rfl rfl rfl (sz rfl rfl rfl (sz rfl rfl rfl (sz rfl rfl rfl (sd rfl (yl_pick_f rfl rfl rfl rfl (sd rfl (yl_assign rfl rfl ?_))))))))))))
     refine SeqR.done (tn (CW.ret (br (tr (rr rfl (.cons rfl .nil) ?_)))))
     have hM115 : (i_Work_isWorkAct p_w p_a) = (false) := by simp only [i_Work_isWorkAct, hb28, hb51, hb85, hb89, cond_true, cond_false, loopE_done, loopE_ret]
     rw [hM115]
     exact ⟨rfl, (Ex.trans (Ex.trans (Ex.trans (Ex.refl w) hE21) hE27) hE88)⟩
   ·have hb85p := dec_f hb85
    refine CW.cond_f rfl hb85 (CW.skip (bn (tn (CW.seq (CW.region (sd rfl (yl_assign rfl rfl (SeqR.done (tn ?_)))))))))
    refine CW.ret (rr rfl (.cons rfl .nil) ?_)
    have hM119 : (i_Work_isWorkAct p_w p_a) = (false) := by simp only [i_Work_isWorkAct, hb28, hb51, hb85, cond_true, cond_false, loopE_done, loopE_ret]
    rw [hM119]
    exact ⟨rfl, (Ex.trans (Ex.trans (Ex.refl w) hE21) hE27)⟩
set_option maxRecDepth 100000 in
set_option maxHeartbeats 2000000 in
theorem c_i_GoodWorkAct {A1 : Option Addr} {c1 : Nat} {A2 : Option Addr} {c2 : Nat} {A3 : Option Addr} {c3 : Nat} {A5 : Option Addr} {c5 : Nat} {A6 : Option Addr} {c6 : Nat} {w : World} (p_w : DWork) (p_a : DWorkAct) (h1 : RdS w (Iv 0 w.heap.size) R_Table 3 A1 p_w.Shift.Ways.length c1 p_w.Shift.Ways) (h2 : RdS w (Iv 0 w.heap.size) (RF e_Int) 1 A2 p_w.Shift.At.length c2 p_w.Shift.At) (h3 : RdS w (Iv 0 w.heap.size) (RF e_Write) 3 A3 p_w.Shift.Store.length c3 p_w.Shift.Store) (h5 : RdS w (Iv 0 w.heap.size) (RF e_Str) 1 A5 p_a.Act.Act.Old.Vals.length c5 p_a.Act.Act.Old.Vals) (h6 : RdS w (Iv 0 w.heap.size) (RF e_Str) 1 A6 p_a.Act.Act.New.Vals.length c6 p_a.Act.Act.New.Vals) (o4 : ok_Work p_w) (o7 : ok_WorkAct p_a) : Cal Tryz.prog 19 #[.agg #[.string (bs (p_w.Shift.Name)), .slice A1 p_w.Shift.Ways.length c1, .slice A2 p_w.Shift.At.length c2, .slice A3 p_w.Shift.Store.length c3, .string (bs (p_w.Up.Last)), .bool (p_w.Up.Over), .string (bs (p_w.Down.Last)), .bool (p_w.Down.Over)], .agg #[.int .i64 (p_a.Kind), .int .i64 (p_a.Many), .int .i64 (p_a.Act.Server), .int .i64 (p_a.Act.Step), .int .i64 (p_a.Act.Act.Kind), .slice A5 p_a.Act.Act.Old.Vals.length c5, .slice A6 p_a.Act.Act.New.Vals.length c6]] w fun v w' => v = .bool ((i_GoodWorkAct p_w p_a)) ∧ Ex w w' := by
 have hol8 : p_w.Shift.Name.length ≤ 1073741824 := o4.1.1
 have hol9 := o4.1.2.1.1
 have hol10 := o4.1.2.2.1.1
 have hol11 := o4.1.2.2.2.1
 have hol12 : p_w.Up.Last.length ≤ 1073741824 := o4.2.1
 have hol13 : p_w.Down.Last.length ≤ 1073741824 := o4.2.2
 have hol14 := o7.1.1
 have hol15 := o7.2.1
 refine Cal.of (vs := [.agg #[.string (bs (p_w.Shift.Name)), .slice A1 p_w.Shift.Ways.length c1, .slice A2 p_w.Shift.At.length c2, .slice A3 p_w.Shift.Store.length c3, .string (bs (p_w.Up.Last)), .bool (p_w.Up.Over), .string (bs (p_w.Down.Last)), .bool (p_w.Down.Over)], .agg #[.int .i64 (p_a.Kind), .int .i64 (p_a.Many), .int .i64 (p_a.Act.Server), .int .i64 (p_a.Act.Step), .int .i64 (p_a.Act.Act.Kind), .slice A5 p_a.Act.Act.Old.Vals.length c5, .slice A6 p_a.Act.Act.New.Vals.length c6]]) Tryz.func19 rfl Tryz.ntmps19 rfl (CW.seq (CW.region (sd rfl (yl_box (cs := [.string (bs (p_w.Shift.Name)), .slice A1 p_w.Shift.Ways.length c1, .slice A2 p_w.Shift.At.length c2, .slice A3 p_w.Shift.Store.length c3, .string (bs (p_w.Up.Last)), .bool (p_w.Up.Over), .string (bs (p_w.Down.Last)), .bool (p_w.Down.Over)]) rfl rfl rfl ?_))))
 intro b16 w17 hs18 hz19 hB20 hE21
 refine sd rfl (yl_box (cs := [.int .i64 (p_a.Kind), .int .i64 (p_a.Many), .int .i64 (p_a.Act.Server), .int .i64 (p_a.Act.Step), .int .i64 (p_a.Act.Act.Kind), .slice A5 p_a.Act.Act.Old.Vals.length c5, .slice A6 p_a.Act.Act.New.Vals.length c6]) rfl rfl rfl ?_)
 intro b22 w23 hs24 hz25 hB26 hE27
 refine sd rfl (yl_assign rfl rfl (SeqR.done (tn (CW.seq (CW.region ?_)))))
 have q28 := Box.ex hB20 hE27
 refine sd rfl (yl_loadN (cs := [.string (bs (p_w.Shift.Name)), .slice A1 p_w.Shift.Ways.length c1, .slice A2 p_w.Shift.At.length c2, .slice A3 p_w.Shift.Store.length c3, .string (bs (p_w.Up.Last)), .bool (p_w.Up.Over), .string (bs (p_w.Down.Last)), .bool (p_w.Down.Over)]) Tryz.ty62 rfl rfl (q28.cells (n := 8) rfl) rfl ?_)
 have q30 := RdS.ex good_Table (RdS.ex good_Table h1 hE21) hE27
 have q32 := RdS.ex good_Int (RdS.ex good_Int h2 hE21) hE27
 have q34 := RdS.ex good_Write (RdS.ex good_Write h3 hE21) hE27
 refine sd rfl (yl_call Tryz.en44 rfl (opvs_cons rfl opvs_nil) (Cal.mono (c_i_GoodWork p_w (RdS.up q30 good_Table) (RdS.up q32 good_Int) (RdS.up q34 good_Write) o4) ?_))
 rintro v36 w35 ⟨rfl, hE37⟩
 have hE37z := Ex.size hE37
 refine sd rfl (yl_move rfl rfl (bcase (i_GoodWork p_w) (fun hb38 => ?_) (fun hb38 => ?_)))
 ·have hb38p := f_i_GoodWork hb38
  refine sy rfl rfl hb38 (yl_loadN (cs := [.string (bs (p_w.Shift.Name)), .slice A1 p_w.Shift.Ways.length c1, .slice A2 p_w.Shift.At.length c2, .slice A3 p_w.Shift.Store.length c3, .string (bs (p_w.Up.Last)), .bool (p_w.Up.Over), .string (bs (p_w.Down.Last)), .bool (p_w.Down.Over)]) Tryz.ty62 rfl rfl ((Box.ex q28 hE37).cells (n := 8) rfl) rfl (sy rfl rfl hb38 (yl_loadN (cs := [.int .i64 (p_a.Kind), .int .i64 (p_a.Many), .int .i64 (p_a.Act.Server), .int .i64 (p_a.Act.Step), .int .i64 (p_a.Act.Act.Kind), .slice A5 p_a.Act.Act.Old.Vals.length c5, .slice A6 p_a.Act.Act.New.Vals.length c6]) Tryz.ty65 rfl rfl ((Box.ex hB26 hE37).cells (n := 7) rfl) rfl (sy rfl rfl hb38 (yl_call Tryz.en45 rfl (opvs_cons rfl (opvs_cons rfl opvs_nil)) (Cal.mono (c_i_Work_isWorkAct p_w p_a (RdS.up (RdS.ex good_Table q30 hE37) good_Table) (RdS.up (RdS.ex good_Int q32 hE37) good_Int) (RdS.up (RdS.ex good_Write q34 hE37) good_Write) (RdS.up (RdS.ex good_Str (RdS.ex good_Str (RdS.ex good_Str h5 hE21) hE27) hE37) good_Str) (RdS.up (RdS.ex good_Str (RdS.ex good_Str (RdS.ex good_Str h6 hE21) hE27) hE37) good_Str) o4 o7 (by first | omega | assumption | (simp only [IntKind.wrap_i64] at *; omega))) ?_))))))
  rintro v51 w50 ⟨rfl, hE52⟩
  have hE52z := Ex.size hE52
  refine sd rfl (yl_pick_t rfl rfl hb38 rfl (sd rfl (yl_assign rfl rfl (SeqR.done (tn (CW.ret (rr rfl (.cons rfl .nil) ?_)))))))
  have hM53 : (i_GoodWorkAct p_w p_a) = ((i_Work_isWorkAct p_w p_a)) := by simp only [i_GoodWorkAct, hb38, cond_true, cond_false, loopE_done, loopE_ret]
  rw [hM53]
  exact ⟨rfl, (Ex.trans (Ex.trans (Ex.trans (Ex.trans (Ex.refl w) hE21) hE27) hE37) hE52)⟩
 ·refine sz rfl rfl hb38 (sz rfl rfl hb38 (sz rfl rfl hb38 (sd rfl (yl_pick_f rfl rfl hb38 rfl (sd rfl (yl_assign rfl rfl (SeqR.done (tn (CW.ret (rr rfl (.cons rfl .nil) ?_))))))))))
  have hM58 : (i_GoodWorkAct p_w p_a) = (false) := by simp only [i_GoodWorkAct, hb38, cond_true, cond_false, loopE_done, loopE_ret]
  rw [hM58]
  exact ⟨rfl, (Ex.trans (Ex.trans (Ex.trans (Ex.refl w) hE21) hE27) hE37)⟩
set_option maxRecDepth 100000 in
set_option maxHeartbeats 2000000 in
theorem c_l_eqStringS {A1 : Option Addr} {c1 : Nat} {A2 : Option Addr} {c2 : Nat} {w : World} (p_a : List Str) (p_b : List Str) (h1 : RdS w (Iv 0 w.heap.size) (RF e_Str) 1 A1 p_a.length c1 p_a) (h2 : RdS w (Iv 0 w.heap.size) (RF e_Str) 1 A2 p_b.length c2 p_b) : Cal Tryz.prog 110 #[.slice A1 p_a.length c1, .slice A2 p_b.length c2] w fun v w' => v = .bool ((l_eqStringS p_a p_b)) ∧ Ex w w' := by
 refine Cal.of (vs := [.slice A1 p_a.length c1, .slice A2 p_b.length c2]) Tryz.func110 rfl Tryz.ntmps110 rfl (CW.seq (CW.region (sd rfl (yl_assign rfl rfl (SeqR.done (tn (CW.seq (CW.seq (CW.region ?_)))))))))
 refine sd rfl (yl_move rfl rfl (sd rfl (yl_len Tryz.un27 rfl rfl (sd rfl (yl_move rfl rfl (sd rfl (yl_len Tryz.un27 rfl rfl (sd rfl (yl_neq rfl rfl rfl (SeqR.done (tn (bcase (decide ((p_a.length : Int) = (p_b.length : Int))) (fun hb3 => ?_) (fun hb3 => ?_)))))))))))))
 ·have hb3p := dec_t hb3
  refine CW.cond_f rfl (not_t hb3) (CW.skip (tn (CW.seq (CW.seq (CW.region (sd rfl (yl_assign rfl rfl (SeqR.done (tn ?_)))))))))
  refine CW.block (CW.loop (fun m5 L6 w7 => ∃ (k4 : Nat), m5 = p_a.length - k4 ∧ k4 ≤ p_a.length ∧ w.heap.size ≤ w7.heap.size ∧ lkp L6 0 = some (.slice A1 p_a.length c1) ∧ lkp L6 1 = some (.slice A2 p_b.length c2) ∧ lkp L6 5 = some (.int .i64 ((k4 : Int))) ∧ RdS w7 (Iv 0 w.heap.size) (RF e_Str) 1 A1 p_a.length c1 p_a ∧ RdS w7 (Iv 0 w.heap.size) (RF e_Str) 1 A2 p_b.length c2 p_b ∧ Ex w w7 ∧ loopM (B_l_eqStringS_0 p_a p_b) (p_a.length - k4) k4 () = loopM (B_l_eqStringS_0 p_a p_b) (p_a.length - 0) 0 ()) (p_a.length - 0) ?_ ?_)
  ·exact ⟨0, rfl, (by omega), Nat.le_refl _, rfl, rfl, rfl, h1, h2, (Ex.refl w), rfl⟩
  ·rintro m8 L9 w10 ⟨k4, rfl, hk11, hsz13, hl14, hl15, hl16, hf17, hf18, hf19, hI12⟩
   refine CW.sub (Sub.cons hl14 (Sub.cons hl15 (Sub.cons hl16 (Sub.nil _)))) ?_
   have hf19z := Ex.size hf19
   have hbg20 := RdS.big hf17
   rcases Nat.lt_or_ge k4 p_a.length with hlt21 | hlt21
   ·refine CW.seq (CW.seq (CW.region (sd rfl (yl_move rfl rfl (sd rfl (yl_move rfl rfl (sd rfl (yl_len Tryz.un27 rfl rfl (sd rfl (yl_lss rfl rfl rfl (SeqR.done (tn ?_))))))))))))
    refine CW.cond_t rfl (lt_t hlt21) (CW.skip (tn (CW.seq (CW.block (CW.seq ?_)))))
    obtain ⟨eb22, eo22, ec22, eA22, eS22, ebl22, el22, eR22, eC22⟩ := RdS.atD hf17 d_Str (i := k4) (by first | omega | assumption)
    obtain rfl := eR22
    have eC22 : Cells w10 eb22 (eo22 + k4 * 1) [.string (bs ((p_a.getD k4 d_Str)))] := eC22
    obtain ⟨eb23, eo23, ec23, eA23, eS23, ebl23, el23, eR23, eC23⟩ := RdS.atD hf18 d_Str (i := k4) (by first | omega | assumption)
    obtain rfl := eR23
    have eC23 : Cells w10 eb23 (eo23 + k4 * 1) [.string (bs ((p_b.getD k4 d_Str)))] := eC23
    refine CW.drawsI 9 (vgetI [DetI (.slice A1 p_a.length c1), DetI (.int .i64 ((k4 : Int))), DetI (.pointer (some ⟨eb22, eo22 + k4 * 1, none⟩)), DetI (.string (bs ((p_a.getD k4 d_Str)))), DetI (.slice A2 p_b.length c2), DetI (.int .i64 ((k4 : Int))), DetI (.pointer (some ⟨eb23, eo23 + k4 * 1, none⟩)), DetI (.string (bs ((p_b.getD k4 d_Str)))), DetI (.bool (!((p_a.getD k4 d_Str) == (p_b.getD k4 d_Str))))]) Tryz.follows rfl rfl rfl rfl rfl rfl (vgetI_stable ⟨StableI.det _, StableI.det _, StableI.det _, StableI.det _, StableI.det _, StableI.det _, StableI.det _, StableI.det _, StableI.det _, trivial⟩) ⟨?_, ?_, ?_, ?_, ?_, ?_, ?_, ?_, ?_, trivial⟩ ?_
    ·exact fun _ _ h => os rfl ((yl_move rfl (h.old 0 _ rfl rfl) kI))
    ·exact fun _ _ h => os rfl ((yl_move rfl (h.old 5 _ rfl rfl) kI))
    ·intro L34 w35 hi36
     have hE37 := hi36.ex
     have hE37z := Ex.size hE37
     exact os rfl ((yl_indexAddrN Tryz.un27 Tryz.ty9 rfl (hi36.dt 0 17 rfl rfl rfl) (hi36.dt 1 18 rfl rfl rfl) eA22 (by first | omega | assumption | (simp only [IntKind.wrap_i64] at *; omega)) kI))
    ·exact fun _ _ h => os rfl ((yl_load1 Tryz.ty9 rfl (h.dt 2 19 rfl rfl rfl) ((Cells.ex eC22 h.ex) 0 _ rfl) kI))
    ·exact fun _ _ h => os rfl ((yl_move rfl (h.old 1 _ rfl rfl) kI))
    ·exact fun _ _ h => os rfl ((yl_move rfl (h.old 5 _ rfl rfl) kI))
    ·intro L56 w57 hi58
     have hE59 := hi58.ex
     have hE59z := Ex.size hE59
     exact os rfl ((yl_indexAddrN Tryz.un27 Tryz.ty9 rfl (hi58.dt 4 21 rfl rfl rfl) (hi58.dt 5 22 rfl rfl rfl) eA23 (by first | omega | assumption | (simp only [IntKind.wrap_i64] at *; omega)) kI))
    ·exact fun _ _ h => os rfl ((yl_load1 Tryz.ty9 rfl (h.dt 6 23 rfl rfl rfl) ((Cells.ex eC23 h.ex) 0 _ rfl) kI))
    ·exact fun _ _ h => os rfl ((yl_sneq (a := (p_a.getD k4 d_Str)) (b := (p_b.getD k4 d_Str)) rfl (h.dt 3 20 rfl rfl rfl) (h.dt 7 24 rfl rfl rfl) kI))
    ·intro fl77 fh78 L74 w75 hp76
     have hE79 := hp76.ex
     have hE79z := Ex.size hE79
     refine SeqR.done (tn (CW.sub (Sub.cons (d := 0) (hp76.old 0 _ rfl rfl) (Sub.cons (d := 1) (hp76.old 1 _ rfl rfl) (Sub.cons (d := 5) (hp76.old 5 _ rfl rfl) (Sub.cons (d := 25) (hp76.nt 8 25 rfl rfl rfl) (Sub.nil _))))) (bcase ((p_a.getD k4 d_Str) == (p_b.getD k4 d_Str)) (fun hb84 => ?_) (fun hb84 => ?_))))
     ·refine CW.cond_f rfl (not_t hb84) (CW.skip (bn (tn (CW.region (sd rfl (yl_move rfl rfl (sd rfl (yl_inc rfl rfl rfl (by omega) (sd rfl (yl_assign rfl rfl (SeqR.done ?_)))))))))))
      refine tn ?_
      have hB85 : B_l_eqStringS_0 p_a p_b k4 () = .cont () := by simp only [B_l_eqStringS_0, hb3, hb84, cond_true, cond_false, loopE_done, loopE_ret]
      exact ⟨p_a.length - (k4 + 1), by omega, k4 + 1, rfl, hlt21, (by omega), rfl, rfl, rfl, (RdS.ex good_Str hf17 hE79), (RdS.ex good_Str hf18 hE79), (Ex.trans hf19 hE79), (loopM.cont hlt21 hB85).symm.trans hI12⟩
     ·refine CW.cond_t rfl (not_f hb84) (CW.seq (CW.region (sd rfl (yl_assign rfl rfl (SeqR.done (tn (CW.ret (br (tr ?_)))))))))
      refine tr ?_
      have hB90 : B_l_eqStringS_0 p_a p_b k4 () = .ret false := by simp only [B_l_eqStringS_0, hb3, hb84, cond_true, cond_false, loopE_done, loopE_ret]
      have hL89 : loopM (B_l_eqStringS_0 p_a p_b) (p_a.length - 0) 0 () = .ret false := hI12.symm.trans (loopM.ret hlt21 hB90)
      refine br (tr (rr rfl (.cons rfl .nil) ?_))
      have hM91 : (l_eqStringS p_a p_b) = (false) := by simp only [l_eqStringS, hb3, hb84, hL89, cond_true, cond_false, loopE_done, loopE_ret]
      rw [hM91]
      exact ⟨rfl, (Ex.trans hf19 hE79)⟩
   ·refine CW.seq (CW.seq (CW.region (sd rfl (yl_move rfl rfl (sd rfl (yl_move rfl rfl (sd rfl (yl_len Tryz.un27 rfl rfl (sd rfl (yl_lss rfl rfl rfl (SeqR.done (tn ?_))))))))))))
    refine CW.cond_f rfl (lt_f hlt21) (CW.exit (tx (tx ?_)))
    have hL93 : loopM (B_l_eqStringS_0 p_a p_b) (p_a.length - 0) 0 () = .done () := hI12.symm.trans (loopM.stop hlt21)
    refine bx (tn (CW.seq (CW.region (sd rfl (yl_assign rfl rfl (SeqR.done (tn (CW.ret (rr rfl (.cons rfl .nil) ?_)))))))))
    have hM94 : (l_eqStringS p_a p_b) = (true) := by simp only [l_eqStringS, hb3, hL93, cond_true, cond_false, loopE_done, loopE_ret]
    rw [hM94]
    exact ⟨rfl, hf19⟩
 ·have hb3p := dec_f hb3
  refine CW.cond_t rfl (not_f hb3) (CW.seq (CW.region (sd rfl (yl_assign rfl rfl (SeqR.done (tn (CW.ret (tr (rr rfl (.cons rfl .nil) ?_)))))))))
  have hM95 : (l_eqStringS p_a p_b) = (false) := by simp only [l_eqStringS, hb3, cond_true, cond_false, loopE_done, loopE_ret]
  rw [hM95]
  exact ⟨rfl, (Ex.refl w)⟩
set_option maxRecDepth 100000 in
set_option maxHeartbeats 2000000 in
theorem c_l_eqIdx {w : World} (p_a : DIdx) (p_b : DIdx) : Cal Tryz.prog 141 #[.agg #[.string (bs (p_a.Name)), .int .i64 (p_a.Col), .int .i64 (p_a.Stage)], .agg #[.string (bs (p_b.Name)), .int .i64 (p_b.Col), .int .i64 (p_b.Stage)]] w fun v w' => v = .bool ((l_eqIdx p_a p_b)) ∧ Ex w w' := by
 refine Cal.of (vs := [.agg #[.string (bs (p_a.Name)), .int .i64 (p_a.Col), .int .i64 (p_a.Stage)], .agg #[.string (bs (p_b.Name)), .int .i64 (p_b.Col), .int .i64 (p_b.Stage)]]) Tryz.func141 rfl Tryz.ntmps141 rfl (CW.seq (CW.region (sd rfl (yl_box (cs := [.string (bs (p_a.Name)), .int .i64 (p_a.Col), .int .i64 (p_a.Stage)]) rfl rfl rfl ?_))))
 intro b1 w2 hs3 hz4 hB5 hE6
 refine sd rfl (yl_box (cs := [.string (bs (p_b.Name)), .int .i64 (p_b.Col), .int .i64 (p_b.Stage)]) rfl rfl rfl ?_)
 intro b7 w8 hs9 hz10 hB11 hE12
 refine sd rfl (yl_assign rfl rfl (SeqR.done (tn (CW.seq (CW.seq (CW.region (sd rfl (yl_fieldAddr Tryz.fd137_0 rfl rfl ?_))))))))
 have q13 := Box.ex hB5 hE12
 refine sd rfl (yl_load1 Tryz.ty9 rfl rfl ((q13.cell 0).trans rfl) (sd rfl (yl_fieldAddr Tryz.fd137_0 rfl rfl (sd rfl (yl_load1 Tryz.ty9 rfl rfl ((hB11.cell 0).trans rfl) (sd rfl (yl_sneq (a := p_a.Name) (b := p_b.Name) rfl rfl rfl (SeqR.done (tn (bcase (p_a.Name == p_b.Name) (fun hb14 => ?_) (fun hb14 => ?_)))))))))))
 ·refine CW.cond_f rfl (not_t hb14) (CW.skip (tn (CW.seq (CW.seq (CW.region (sd rfl (yl_fieldAddr Tryz.fd137_1 rfl rfl (sd rfl (yl_load1 Tryz.ty3 rfl rfl ((q13.cell 1).trans rfl) (sd rfl (yl_fieldAddr Tryz.fd137_1 rfl rfl ?_)))))))))))
  refine sd rfl (yl_load1 Tryz.ty3 rfl rfl ((hB11.cell 1).trans rfl) (sd rfl (yl_neq rfl rfl rfl (SeqR.done (tn (bcase (decide (p_a.Col = p_b.Col)) (fun hb15 => ?_) (fun hb15 => ?_)))))))
  ·have hb15p := dec_t hb15
   refine CW.cond_f rfl (not_t hb15) (CW.skip (tn (CW.seq (CW.seq (CW.region (sd rfl (yl_fieldAddr Tryz.fd137_2 rfl rfl (sd rfl (yl_load1 Tryz.ty3 rfl rfl ((q13.cell 2).trans rfl) (sd rfl (yl_fieldAddr Tryz.fd137_2 rfl rfl ?_)))))))))))
   refine sd rfl (yl_load1 Tryz.ty3 rfl rfl ((hB11.cell 2).trans rfl) (sd rfl (yl_neq rfl rfl rfl (SeqR.done (tn (bcase (decide (p_a.Stage = p_b.Stage)) (fun hb16 => ?_) (fun hb16 => ?_)))))))
   ·have hb16p := dec_t hb16
    refine CW.cond_f rfl (not_t hb16) (CW.skip (tn (CW.seq (CW.region (sd rfl (yl_assign rfl rfl (SeqR.done (tn (CW.ret ?_)))))))))
    refine rr rfl (.cons rfl .nil) ?_
    have hM17 : (l_eqIdx p_a p_b) = (true) := by simp only [l_eqIdx, hb14, hb15, hb16, cond_true, cond_false, loopE_done, loopE_ret]
    rw [hM17]
    exact ⟨rfl, (Ex.trans (Ex.trans (Ex.refl w) hE6) hE12)⟩
   ·have hb16p := dec_f hb16
    refine CW.cond_t rfl (not_f hb16) (CW.seq (CW.region (sd rfl (yl_assign rfl rfl (SeqR.done (tn (CW.ret (tr (rr rfl (.cons rfl .nil) ?_)))))))))
    have hM20 : (l_eqIdx p_a p_b) = (false) := by simp only [l_eqIdx, hb14, hb15, hb16, cond_true, cond_false, loopE_done, loopE_ret]
    rw [hM20]
    exact ⟨rfl, (Ex.trans (Ex.trans (Ex.refl w) hE6) hE12)⟩
  ·have hb15p := dec_f hb15
   refine CW.cond_t rfl (not_f hb15) (CW.seq (CW.region (sd rfl (yl_assign rfl rfl (SeqR.done (tn (CW.ret (tr (rr rfl (.cons rfl .nil) ?_)))))))))
   have hM23 : (l_eqIdx p_a p_b) = (false) := by simp only [l_eqIdx, hb14, hb15, cond_true, cond_false, loopE_done, loopE_ret]
   rw [hM23]
   exact ⟨rfl, (Ex.trans (Ex.trans (Ex.refl w) hE6) hE12)⟩
 ·refine CW.cond_t rfl (not_f hb14) (CW.seq (CW.region (sd rfl (yl_assign rfl rfl (SeqR.done (tn (CW.ret (tr (rr rfl (.cons rfl .nil) ?_)))))))))
  have hM26 : (l_eqIdx p_a p_b) = (false) := by simp only [l_eqIdx, hb14, cond_true, cond_false, loopE_done, loopE_ret]
  rw [hM26]
  exact ⟨rfl, (Ex.trans (Ex.trans (Ex.refl w) hE6) hE12)⟩
set_option maxRecDepth 100000 in
set_option maxHeartbeats 2000000 in
theorem c_l_eqIdxS {A1 : Option Addr} {c1 : Nat} {A2 : Option Addr} {c2 : Nat} {w : World} (p_a : List DIdx) (p_b : List DIdx) (h1 : RdS w (Iv 0 w.heap.size) (RF e_Idx) 3 A1 p_a.length c1 p_a) (h2 : RdS w (Iv 0 w.heap.size) (RF e_Idx) 3 A2 p_b.length c2 p_b) : Cal Tryz.prog 111 #[.slice A1 p_a.length c1, .slice A2 p_b.length c2] w fun v w' => v = .bool ((l_eqIdxS p_a p_b)) ∧ Ex w w' := by
 refine Cal.of (vs := [.slice A1 p_a.length c1, .slice A2 p_b.length c2]) Tryz.func111 rfl Tryz.ntmps111 rfl (CW.seq (CW.region (sd rfl (yl_assign rfl rfl (SeqR.done (tn (CW.seq (CW.seq (CW.region ?_)))))))))
 refine sd rfl (yl_move rfl rfl (sd rfl (yl_len Tryz.un93 rfl rfl (sd rfl (yl_move rfl rfl (sd rfl (yl_len Tryz.un93 rfl rfl (sd rfl (yl_neq rfl rfl rfl (SeqR.done (tn (bcase (decide ((p_a.length : Int) = (p_b.length : Int))) (fun hb3 => ?_) (fun hb3 => ?_)))))))))))))
 ·have hb3p := dec_t hb3
  refine CW.cond_f rfl (not_t hb3) (CW.skip (tn (CW.seq (CW.seq (CW.region (sd rfl (yl_assign rfl rfl (SeqR.done (tn ?_)))))))))
  refine CW.block (CW.loop (fun m5 L6 w7 => ∃ (k4 : Nat), m5 = p_a.length - k4 ∧ k4 ≤ p_a.length ∧ w.heap.size ≤ w7.heap.size ∧ lkp L6 0 = some (.slice A1 p_a.length c1) ∧ lkp L6 1 = some (.slice A2 p_b.length c2) ∧ lkp L6 5 = some (.int .i64 ((k4 : Int))) ∧ RdS w7 (Iv 0 w.heap.size) (RF e_Idx) 3 A1 p_a.length c1 p_a ∧ RdS w7 (Iv 0 w.heap.size) (RF e_Idx) 3 A2 p_b.length c2 p_b ∧ Ex w w7 ∧ loopM (B_l_eqIdxS_0 p_a p_b) (p_a.length - k4) k4 () = loopM (B_l_eqIdxS_0 p_a p_b) (p_a.length - 0) 0 ()) (p_a.length - 0) ?_ ?_)
  ·exact ⟨0, rfl, (by omega), Nat.le_refl _, rfl, rfl, rfl, h1, h2, (Ex.refl w), rfl⟩
  ·rintro m8 L9 w10 ⟨k4, rfl, hk11, hsz13, hl14, hl15, hl16, hf17, hf18, hf19, hI12⟩
   refine CW.sub (Sub.cons hl14 (Sub.cons hl15 (Sub.cons hl16 (Sub.nil _)))) ?_
   have hf19z := Ex.size hf19
   have hbg20 := RdS.big hf17
   rcases Nat.lt_or_ge k4 p_a.length with hlt21 | hlt21
   ·refine CW.seq (CW.seq (CW.region (sd rfl (yl_move rfl rfl (sd rfl (yl_move rfl rfl (sd rfl (yl_len Tryz.un93 rfl rfl (sd rfl (yl_lss rfl rfl rfl (SeqR.done (tn ?_))))))))))))
    refine CW.cond_t rfl (lt_t hlt21) (CW.skip (tn (CW.seq (CW.block (CW.seq ?_)))))
    obtain ⟨eb22, eo22, ec22, eA22, eS22, ebl22, el22, eR22, eC22⟩ := RdS.atD hf17 d_Idx (i := k4) (by first | omega | assumption)
    obtain rfl := eR22
    have eC22 : Cells w10 eb22 (eo22 + k4 * 3) [.string (bs ((p_a.getD k4 d_Idx).Name)), .int .i64 ((p_a.getD k4 d_Idx).Col), .int .i64 ((p_a.getD k4 d_Idx).Stage)] := eC22
    obtain ⟨eb23, eo23, ec23, eA23, eS23, ebl23, el23, eR23, eC23⟩ := RdS.atD hf18 d_Idx (i := k4) (by first | omega | assumption)
    obtain rfl := eR23
    have eC23 : Cells w10 eb23 (eo23 + k4 * 3) [.string (bs ((p_b.getD k4 d_Idx).Name)), .int .i64 ((p_b.getD k4 d_Idx).Col), .int .i64 ((p_b.getD k4 d_Idx).Stage)] := eC23
    refine CW.drawsI 10 (vgetI [DetI (.slice A1 p_a.length c1), DetI (.int .i64 ((k4 : Int))), DetI (.pointer (some ⟨eb22, eo22 + k4 * 3, none⟩)), DetI (.agg #[.string (bs ((p_a.getD k4 d_Idx).Name)), .int .i64 ((p_a.getD k4 d_Idx).Col), .int .i64 ((p_a.getD k4 d_Idx).Stage)]), DetI (.slice A2 p_b.length c2), DetI (.int .i64 ((k4 : Int))), DetI (.pointer (some ⟨eb23, eo23 + k4 * 3, none⟩)), DetI (.agg #[.string (bs ((p_b.getD k4 d_Idx).Name)), .int .i64 ((p_b.getD k4 d_Idx).Col), .int .i64 ((p_b.getD k4 d_Idx).Stage)]), DetI (.bool ((l_eqIdx (p_a.getD k4 d_Idx) (p_b.getD k4 d_Idx)))), DetI (.bool (!(l_eqIdx (p_a.getD k4 d_Idx) (p_b.getD k4 d_Idx))))]) Tryz.follows rfl rfl rfl rfl rfl rfl (vgetI_stable ⟨StableI.det _, StableI.det _, StableI.det _, StableI.det _, StableI.det _, StableI.det _, StableI.det _, StableI.det _, StableI.det _, StableI.det _, trivial⟩) ⟨?_, ?_, ?_, ?_, ?_, ?_, ?_, ?_, ?_, ?_, trivial⟩ ?_
    ·exact fun _ _ h => os rfl ((yl_move rfl (h.old 0 _ rfl rfl) kI))
    ·exact fun _ _ h => os rfl ((yl_move rfl (h.old 5 _ rfl rfl) kI))
    ·intro L35 w36 hi37
     have hE38 := hi37.ex
     have hE38z := Ex.size hE38
     exact os rfl ((yl_indexAddrN Tryz.un93 Tryz.ty137 rfl (hi37.dt 0 17 rfl rfl rfl) (hi37.dt 1 18 rfl rfl rfl) eA22 (by first | omega | assumption | (simp only [IntKind.wrap_i64] at *; omega)) kI))
    ·exact fun _ _ h => os rfl ((yl_loadN (cs := [.string (bs ((p_a.getD k4 d_Idx).Name)), .int .i64 ((p_a.getD k4 d_Idx).Col), .int .i64 ((p_a.getD k4 d_Idx).Stage)]) Tryz.ty137 rfl (h.dt 2 19 rfl rfl rfl) (Cells.ex eC22 h.ex) rfl kI))
    ·exact fun _ _ h => os rfl ((yl_move rfl (h.old 1 _ rfl rfl) kI))
    ·exact fun _ _ h => os rfl ((yl_move rfl (h.old 5 _ rfl rfl) kI))
    ·intro L57 w58 hi59
     have hE60 := hi59.ex
     have hE60z := Ex.size hE60
     exact os rfl ((yl_indexAddrN Tryz.un93 Tryz.ty137 rfl (hi59.dt 4 21 rfl rfl rfl) (hi59.dt 5 22 rfl rfl rfl) eA23 (by first | omega | assumption | (simp only [IntKind.wrap_i64] at *; omega)) kI))
    ·exact fun _ _ h => os rfl ((yl_loadN (cs := [.string (bs ((p_b.getD k4 d_Idx).Name)), .int .i64 ((p_b.getD k4 d_Idx).Col), .int .i64 ((p_b.getD k4 d_Idx).Stage)]) Tryz.ty137 rfl (h.dt 6 23 rfl rfl rfl) (Cells.ex eC23 h.ex) rfl kI))
    ·intro L69 w70 hi71
     refine OpR.op' rfl (yl_call Tryz.en141 rfl (opvs_cons (hi71.dt 3 20 rfl rfl rfl) (opvs_cons (hi71.dt 7 24 rfl rfl rfl) opvs_nil)) (Cal.mono (c_l_eqIdx (p_a.getD k4 d_Idx) (p_b.getD k4 d_Idx)) ?_))
     rintro v76 w75 ⟨rfl, hE77⟩
     exact ⟨rfl, hE77⟩
    ·exact fun _ _ h => os rfl ((yl_not rfl (h.dt 8 25 rfl rfl rfl) kI))
    ·intro fl86 fh87 L83 w84 hp85
     have hE88 := hp85.ex
     have hE88z := Ex.size hE88
     refine SeqR.done (tn (CW.sub (Sub.cons (d := 0) (hp85.old 0 _ rfl rfl) (Sub.cons (d := 1) (hp85.old 1 _ rfl rfl) (Sub.cons (d := 5) (hp85.old 5 _ rfl rfl) (Sub.cons (d := 26) (hp85.nt 9 26 rfl rfl rfl) (Sub.nil _))))) (bcase (l_eqIdx (p_a.getD k4 d_Idx) (p_b.getD k4 d_Idx)) (fun hb93 => ?_) (fun hb93 => ?_))))
     ·refine CW.cond_f rfl (not_t hb93) (CW.skip (bn (tn (CW.region (sd rfl (yl_move rfl rfl (sd rfl (yl_inc rfl rfl rfl (by omega) (sd rfl (yl_assign rfl rfl (SeqR.done ?_)))))))))))
      refine tn ?_
      have hB94 : B_l_eqIdxS_0 p_a p_b k4 () = .cont () := by simp only [B_l_eqIdxS_0, hb3, hb93, cond_true, cond_false, loopE_done, loopE_ret]
      exact ⟨p_a.length - (k4 + 1), by omega, k4 + 1, rfl, hlt21, (by omega), rfl, rfl, rfl, (RdS.ex good_Idx hf17 hE88), (RdS.ex good_Idx hf18 hE88), (Ex.trans hf19 hE88), (loopM.cont hlt21 hB94).symm.trans hI12⟩
     ·refine CW.cond_t rfl (not_f hb93) (CW.seq (CW.region (sd rfl (yl_assign rfl rfl (SeqR.done (tn (CW.ret (br (tr ?_)))))))))
      refine tr ?_
      have hB99 : B_l_eqIdxS_0 p_a p_b k4 () = .ret false := by simp only [B_l_eqIdxS_0, hb3, hb93, cond_true, cond_false, loopE_done, loopE_ret]
      have hL98 : loopM (B_l_eqIdxS_0 p_a p_b) (p_a.length - 0) 0 () = .ret false := hI12.symm.trans (loopM.ret hlt21 hB99)
      refine br (tr (rr rfl (.cons rfl .nil) ?_))
      have hM100 : (l_eqIdxS p_a p_b) = (false) := by simp only [l_eqIdxS, hb3, hb93, hL98, cond_true, cond_false, loopE_done, loopE_ret]
      rw [hM100]
      exact ⟨rfl, (Ex.trans hf19 hE88)⟩
   ·refine CW.seq (CW.seq (CW.region (sd rfl (yl_move rfl rfl (sd rfl (yl_move rfl rfl (sd rfl (yl_len Tryz.un93 rfl rfl (sd rfl (yl_lss rfl rfl rfl (SeqR.done (tn ?_))))))))))))
    refine CW.cond_f rfl (lt_f hlt21) (CW.exit (tx (tx ?_)))
    have hL102 : loopM (B_l_eqIdxS_0 p_a p_b) (p_a.length - 0) 0 () = .done () := hI12.symm.trans (loopM.stop hlt21)
    refine bx (tn (CW.seq (CW.region (sd rfl (yl_assign rfl rfl (SeqR.done (tn (CW.ret (rr rfl (.cons rfl .nil) ?_)))))))))
    have hM103 : (l_eqIdxS p_a p_b) = (true) := by simp only [l_eqIdxS, hb3, hL102, cond_true, cond_false, loopE_done, loopE_ret]
    rw [hM103]
    exact ⟨rfl, hf19⟩
 ·have hb3p := dec_f hb3
  refine CW.cond_t rfl (not_f hb3) (CW.seq (CW.region (sd rfl (yl_assign rfl rfl (SeqR.done (tn (CW.ret (tr (rr rfl (.cons rfl .nil) ?_)))))))))
  have hM104 : (l_eqIdxS p_a p_b) = (false) := by simp only [l_eqIdxS, hb3, cond_true, cond_false, loopE_done, loopE_ret]
  rw [hM104]
  exact ⟨rfl, (Ex.refl w)⟩
set_option maxRecDepth 100000 in
set_option maxHeartbeats 2000000 in
theorem c_l_eqTable {A1 : Option Addr} {c1 : Nat} {A2 : Option Addr} {c2 : Nat} {A3 : Option Addr} {c3 : Nat} {A4 : Option Addr} {c4 : Nat} {w : World} (p_a : DTable) (p_b : DTable) (h1 : RdS w (Iv 0 w.heap.size) (RF e_Str) 1 A1 p_a.Cols.length c1 p_a.Cols) (h2 : RdS w (Iv 0 w.heap.size) (RF e_Idx) 3 A2 p_a.Idxs.length c2 p_a.Idxs) (h3 : RdS w (Iv 0 w.heap.size) (RF e_Str) 1 A3 p_b.Cols.length c3 p_b.Cols) (h4 : RdS w (Iv 0 w.heap.size) (RF e_Idx) 3 A4 p_b.Idxs.length c4 p_b.Idxs) : Cal Tryz.prog 77 #[.agg #[.string (bs (p_a.Name)), .slice A1 p_a.Cols.length c1, .slice A2 p_a.Idxs.length c2], .agg #[.string (bs (p_b.Name)), .slice A3 p_b.Cols.length c3, .slice A4 p_b.Idxs.length c4]] w fun v w' => v = .bool ((l_eqTable p_a p_b)) ∧ Ex w w' := by
 refine Cal.of (vs := [.agg #[.string (bs (p_a.Name)), .slice A1 p_a.Cols.length c1, .slice A2 p_a.Idxs.length c2], .agg #[.string (bs (p_b.Name)), .slice A3 p_b.Cols.length c3, .slice A4 p_b.Idxs.length c4]]) Tryz.func77 rfl Tryz.ntmps77 rfl (CW.seq (CW.region (sd rfl (yl_box (cs := [.string (bs (p_a.Name)), .slice A1 p_a.Cols.length c1, .slice A2 p_a.Idxs.length c2]) rfl rfl rfl ?_))))
 intro b5 w6 hs7 hz8 hB9 hE10
 refine sd rfl (yl_box (cs := [.string (bs (p_b.Name)), .slice A3 p_b.Cols.length c3, .slice A4 p_b.Idxs.length c4]) rfl rfl rfl ?_)
 intro b11 w12 hs13 hz14 hB15 hE16
 refine sd rfl (yl_assign rfl rfl (SeqR.done (tn (CW.seq (CW.seq (CW.region (sd rfl (yl_fieldAddr Tryz.fd95_0 rfl rfl ?_))))))))
 have q17 := Box.ex hB9 hE16
 refine sd rfl (yl_load1 Tryz.ty9 rfl rfl ((q17.cell 0).trans rfl) (sd rfl (yl_fieldAddr Tryz.fd95_0 rfl rfl (sd rfl (yl_load1 Tryz.ty9 rfl rfl ((hB15.cell 0).trans rfl) (sd rfl (yl_sneq (a := p_a.Name) (b := p_b.Name) rfl rfl rfl (SeqR.done (tn (bcase (p_a.Name == p_b.Name) (fun hb18 => ?_) (fun hb18 => ?_)))))))))))
 ·refine CW.cond_f rfl (not_t hb18) (CW.skip (tn (CW.seq (CW.seq (CW.region (sd rfl (yl_fieldAddr Tryz.fd95_1 rfl rfl (sd rfl (yl_load1 Tryz.ty27 rfl rfl ((q17.cell 1).trans rfl) (sd rfl (yl_fieldAddr Tryz.fd95_1 rfl rfl ?_)))))))))))
  refine sd rfl (yl_load1 Tryz.ty27 rfl rfl ((hB15.cell 1).trans rfl) (sd rfl (yl_call Tryz.en110 rfl (opvs_cons rfl (opvs_cons rfl opvs_nil)) (Cal.mono (c_l_eqStringS p_a.Cols p_b.Cols (RdS.up (RdS.ex good_Str (RdS.ex good_Str h1 hE10) hE16) good_Str) (RdS.up (RdS.ex good_Str (RdS.ex good_Str h3 hE10) hE16) good_Str)) ?_))))
  rintro v24 w23 ⟨rfl, hE25⟩
  have hE25z := Ex.size hE25
  refine sd rfl (yl_not rfl rfl (SeqR.done (tn (bcase (l_eqStringS p_a.Cols p_b.Cols) (fun hb26 => ?_) (fun hb26 => ?_)))))
  ·refine CW.cond_f rfl (not_t hb26) (CW.skip (tn (CW.seq (CW.seq (CW.region (sd rfl (yl_fieldAddr Tryz.fd95_2 rfl rfl (sd rfl (yl_load1 Tryz.ty93 rfl rfl (((Box.ex q17 hE25).cell 2).trans rfl) (sd rfl (yl_fieldAddr Tryz.fd95_2 rfl rfl ?_)))))))))))
   refine sd rfl (yl_load1 Tryz.ty93 rfl rfl (((Box.ex hB15 hE25).cell 2).trans rfl) (sd rfl (yl_call Tryz.en111 rfl (opvs_cons rfl (opvs_cons rfl opvs_nil)) (Cal.mono (c_l_eqIdxS p_a.Idxs p_b.Idxs (RdS.up (RdS.ex good_Idx (RdS.ex good_Idx (RdS.ex good_Idx h2 hE10) hE16) hE25) good_Idx) (RdS.up (RdS.ex good_Idx (RdS.ex good_Idx (RdS.ex good_Idx h4 hE10) hE16) hE25) good_Idx)) ?_))))
   rintro v36 w35 ⟨rfl, hE37⟩
   have hE37z := Ex.size hE37
   refine sd rfl (yl_not rfl rfl (SeqR.done (tn (bcase (l_eqIdxS p_a.Idxs p_b.Idxs) (fun hb38 => ?_) (fun hb38 => ?_)))))
   ·refine CW.cond_f rfl (not_t hb38) (CW.skip (tn (CW.seq (CW.region (sd rfl (yl_assign rfl rfl (SeqR.done (tn (CW.ret ?_)))))))))
    refine rr rfl (.cons rfl .nil) ?_
    have hM39 : (l_eqTable p_a p_b) = (true) := by simp only [l_eqTable, hb18, hb26, hb38, cond_true, cond_false, loopE_done, loopE_ret]
    rw [hM39]
    exact ⟨rfl, (Ex.trans (Ex.trans (Ex.trans (Ex.trans (Ex.refl w) hE10) hE16) hE25) hE37)⟩
   ·refine CW.cond_t rfl (not_f hb38) (CW.seq (CW.region (sd rfl (yl_assign rfl rfl (SeqR.done (tn (CW.ret (tr (rr rfl (.cons rfl .nil) ?_)))))))))
    have hM44 : (l_eqTable p_a p_b) = (false) := by simp only [l_eqTable, hb18, hb26, hb38, cond_true, cond_false, loopE_done, loopE_ret]
    rw [hM44]
    exact ⟨rfl, (Ex.trans (Ex.trans (Ex.trans (Ex.trans (Ex.refl w) hE10) hE16) hE25) hE37)⟩
  ·refine CW.cond_t rfl (not_f hb26) (CW.seq (CW.region (sd rfl (yl_assign rfl rfl (SeqR.done (tn (CW.ret (tr (rr rfl (.cons rfl .nil) ?_)))))))))
   have hM49 : (l_eqTable p_a p_b) = (false) := by simp only [l_eqTable, hb18, hb26, cond_true, cond_false, loopE_done, loopE_ret]
   rw [hM49]
   exact ⟨rfl, (Ex.trans (Ex.trans (Ex.trans (Ex.refl w) hE10) hE16) hE25)⟩
 ·refine CW.cond_t rfl (not_f hb18) (CW.seq (CW.region (sd rfl (yl_assign rfl rfl (SeqR.done (tn (CW.ret (tr (rr rfl (.cons rfl .nil) ?_)))))))))
  have hM53 : (l_eqTable p_a p_b) = (false) := by simp only [l_eqTable, hb18, cond_true, cond_false, loopE_done, loopE_ret]
  rw [hM53]
  exact ⟨rfl, (Ex.trans (Ex.trans (Ex.refl w) hE10) hE16)⟩
set_option maxRecDepth 100000 in
set_option maxHeartbeats 2000000 in
theorem c_l_eqTableS {A1 : Option Addr} {c1 : Nat} {A2 : Option Addr} {c2 : Nat} {w : World} (p_a : List DTable) (p_b : List DTable) (h1 : RdS w (Iv 0 w.heap.size) R_Table 3 A1 p_a.length c1 p_a) (h2 : RdS w (Iv 0 w.heap.size) R_Table 3 A2 p_b.length c2 p_b) : Cal Tryz.prog 36 #[.slice A1 p_a.length c1, .slice A2 p_b.length c2] w fun v w' => v = .bool ((l_eqTableS p_a p_b)) ∧ Ex w w' := by
 refine Cal.of (vs := [.slice A1 p_a.length c1, .slice A2 p_b.length c2]) Tryz.func36 rfl Tryz.ntmps36 rfl (CW.seq (CW.region (sd rfl (yl_assign rfl rfl (SeqR.done (tn (CW.seq (CW.seq (CW.region ?_)))))))))
 refine sd rfl (yl_move rfl rfl (sd rfl (yl_len Tryz.un37 rfl rfl (sd rfl (yl_move rfl rfl (sd rfl (yl_len Tryz.un37 rfl rfl (sd rfl (yl_neq rfl rfl rfl (SeqR.done (tn (bcase (decide ((p_a.length : Int) = (p_b.length : Int))) (fun hb3 => ?_) (fun hb3 => ?_)))))))))))))
 ·have hb3p := dec_t hb3
  refine CW.cond_f rfl (not_t hb3) (CW.skip (tn (CW.seq (CW.seq (CW.region (sd rfl (yl_assign rfl rfl (SeqR.done (tn ?_)))))))))
  refine CW.block (CW.loop (fun m5 L6 w7 => ∃ (k4 : Nat), m5 = p_a.length - k4 ∧ k4 ≤ p_a.length ∧ w.heap.size ≤ w7.heap.size ∧ lkp L6 0 = some (.slice A1 p_a.length c1) ∧ lkp L6 1 = some (.slice A2 p_b.length c2) ∧ lkp L6 5 = some (.int .i64 ((k4 : Int))) ∧ RdS w7 (Iv 0 w.heap.size) R_Table 3 A1 p_a.length c1 p_a ∧ RdS w7 (Iv 0 w.heap.size) R_Table 3 A2 p_b.length c2 p_b ∧ Ex w w7 ∧ loopM (B_l_eqTableS_0 p_a p_b) (p_a.length - k4) k4 () = loopM (B_l_eqTableS_0 p_a p_b) (p_a.length - 0) 0 ()) (p_a.length - 0) ?_ ?_)
  ·exact ⟨0, rfl, (by omega), Nat.le_refl _, rfl, rfl, rfl, h1, h2, (Ex.refl w), rfl⟩
  ·rintro m8 L9 w10 ⟨k4, rfl, hk11, hsz13, hl14, hl15, hl16, hf17, hf18, hf19, hI12⟩
   refine CW.sub (Sub.cons hl14 (Sub.cons hl15 (Sub.cons hl16 (Sub.nil _)))) ?_
   have hf19z := Ex.size hf19
   have hbg20 := RdS.big hf17
   rcases Nat.lt_or_ge k4 p_a.length with hlt21 | hlt21
   ·refine CW.seq (CW.seq (CW.region (sd rfl (yl_move rfl rfl (sd rfl (yl_move rfl rfl (sd rfl (yl_len Tryz.un37 rfl rfl (sd rfl (yl_lss rfl rfl rfl (SeqR.done (tn ?_))))))))))))
    refine CW.cond_t rfl (lt_t hlt21) (CW.skip (tn (CW.seq (CW.block (CW.seq ?_)))))
    obtain ⟨eb22, eo22, ec22, eA22, eS22, ebl22, el22, eR22, eC22⟩ := RdS.atD hf17 d_Table (i := k4) (by first | omega | assumption)
    obtain ⟨A23, c23, A24, c24, rfl, h23, h24⟩ := eR22
    have eC22 : Cells w10 eb22 (eo22 + k4 * 3) [.string (bs ((p_a.getD k4 d_Table).Name)), .slice A23 (((p_a.getD k4 d_Table).Cols).length) c23, .slice A24 (((p_a.getD k4 d_Table).Idxs).length) c24] := eC22
    obtain ⟨eb25, eo25, ec25, eA25, eS25, ebl25, el25, eR25, eC25⟩ := RdS.atD hf18 d_Table (i := k4) (by first | omega | assumption)
    obtain ⟨A26, c26, A27, c27, rfl, h26, h27⟩ := eR25
    have eC25 : Cells w10 eb25 (eo25 + k4 * 3) [.string (bs ((p_b.getD k4 d_Table).Name)), .slice A26 (((p_b.getD k4 d_Table).Cols).length) c26, .slice A27 (((p_b.getD k4 d_Table).Idxs).length) c27] := eC25
    refine CW.drawsI 10 (vgetI [DetI (.slice A1 p_a.length c1), DetI (.int .i64 ((k4 : Int))), DetI (.pointer (some ⟨eb22, eo22 + k4 * 3, none⟩)), DetI (.agg #[.string (bs ((p_a.getD k4 d_Table).Name)), .slice A23 (((p_a.getD k4 d_Table).Cols).length) c23, .slice A24 (((p_a.getD k4 d_Table).Idxs).length) c24]), DetI (.slice A2 p_b.length c2), DetI (.int .i64 ((k4 : Int))), DetI (.pointer (some ⟨eb25, eo25 + k4 * 3, none⟩)), DetI (.agg #[.string (bs ((p_b.getD k4 d_Table).Name)), .slice A26 (((p_b.getD k4 d_Table).Cols).length) c26, .slice A27 (((p_b.getD k4 d_Table).Idxs).length) c27]), DetI (.bool ((l_eqTable (p_a.getD k4 d_Table) (p_b.getD k4 d_Table)))), DetI (.bool (!(l_eqTable (p_a.getD k4 d_Table) (p_b.getD k4 d_Table))))]) Tryz.follows rfl rfl rfl rfl rfl rfl (vgetI_stable ⟨StableI.det _, StableI.det _, StableI.det _, StableI.det _, StableI.det _, StableI.det _, StableI.det _, StableI.det _, StableI.det _, StableI.det _, trivial⟩) ⟨?_, ?_, ?_, ?_, ?_, ?_, ?_, ?_, ?_, ?_, trivial⟩ ?_
    ·exact fun _ _ h => os rfl ((yl_move rfl (h.old 0 _ rfl rfl) kI))
    ·exact fun _ _ h => os rfl ((yl_move rfl (h.old 5 _ rfl rfl) kI))
    ·intro L39 w40 hi41
     have hE42 := hi41.ex
     have hE42z := Ex.size hE42
     exact os rfl ((yl_indexAddrN Tryz.un37 Tryz.ty95 rfl (hi41.dt 0 17 rfl rfl rfl) (hi41.dt 1 18 rfl rfl rfl) eA22 (by first | omega | assumption | (simp only [IntKind.wrap_i64] at *; omega)) kI))
    ·exact fun _ _ h => os rfl ((yl_loadN (cs := [.string (bs ((p_a.getD k4 d_Table).Name)), .slice A23 (((p_a.getD k4 d_Table).Cols).length) c23, .slice A24 (((p_a.getD k4 d_Table).Idxs).length) c24]) Tryz.ty95 rfl (h.dt 2 19 rfl rfl rfl) (Cells.ex eC22 h.ex) rfl kI))
    ·exact fun _ _ h => os rfl ((yl_move rfl (h.old 1 _ rfl rfl) kI))
    ·exact fun _ _ h => os rfl ((yl_move rfl (h.old 5 _ rfl rfl) kI))
    ·intro L61 w62 hi63
     have hE64 := hi63.ex
     have hE64z := Ex.size hE64
     exact os rfl ((yl_indexAddrN Tryz.un37 Tryz.ty95 rfl (hi63.dt 4 21 rfl rfl rfl) (hi63.dt 5 22 rfl rfl rfl) eA25 (by first | omega | assumption | (simp only [IntKind.wrap_i64] at *; omega)) kI))
    ·exact fun _ _ h => os rfl ((yl_loadN (cs := [.string (bs ((p_b.getD k4 d_Table).Name)), .slice A26 (((p_b.getD k4 d_Table).Cols).length) c26, .slice A27 (((p_b.getD k4 d_Table).Idxs).length) c27]) Tryz.ty95 rfl (h.dt 6 23 rfl rfl rfl) (Cells.ex eC25 h.ex) rfl kI))
    ·intro L73 w74 hi75
     have hE76 := hi75.ex
     refine OpR.op' rfl (yl_call Tryz.en77 rfl (opvs_cons (hi75.dt 3 20 rfl rfl rfl) (opvs_cons (hi75.dt 7 24 rfl rfl rfl) opvs_nil)) (Cal.mono (c_l_eqTable (p_a.getD k4 d_Table) (p_b.getD k4 d_Table) (RdS.up (RdS.ex good_Str h23 hE76) good_Str) (RdS.up (RdS.ex good_Idx h24 hE76) good_Idx) (RdS.up (RdS.ex good_Str h26 hE76) good_Str) (RdS.up (RdS.ex good_Idx h27 hE76) good_Idx)) ?_))
     rintro v84 w83 ⟨rfl, hE85⟩
     exact ⟨rfl, hE85⟩
    ·exact fun _ _ h => os rfl ((yl_not rfl (h.dt 8 25 rfl rfl rfl) kI))
    ·intro fl94 fh95 L91 w92 hp93
     have hE96 := hp93.ex
     have hE96z := Ex.size hE96
     refine SeqR.done (tn (CW.sub (Sub.cons (d := 0) (hp93.old 0 _ rfl rfl) (Sub.cons (d := 1) (hp93.old 1 _ rfl rfl) (Sub.cons (d := 5) (hp93.old 5 _ rfl rfl) (Sub.cons (d := 26) (hp93.nt 9 26 rfl rfl rfl) (Sub.nil _))))) (bcase (l_eqTable (p_a.getD k4 d_Table) (p_b.getD k4 d_Table)) (fun hb101 => ?_) (fun hb101 => ?_))))
     ·refine CW.cond_f rfl (not_t hb101) (CW.skip (bn (tn (CW.region (sd rfl (yl_move rfl rfl (sd rfl (yl_inc rfl rfl rfl (by omega) (sd rfl (yl_assign rfl rfl (SeqR.done ?_)))))))))))
      refine tn ?_
      have hB102 : B_l_eqTableS_0 p_a p_b k4 () = .cont () := by simp only [B_l_eqTableS_0, hb3, hb101, cond_true, cond_false, loopE_done, loopE_ret]
      exact ⟨p_a.length - (k4 + 1), by omega, k4 + 1, rfl, hlt21, (by omega), rfl, rfl, rfl, (RdS.ex good_Table hf17 hE96), (RdS.ex good_Table hf18 hE96), (Ex.trans hf19 hE96), (loopM.cont hlt21 hB102).symm.trans hI12⟩
     ·refine CW.cond_t rfl (not_f hb101) (CW.seq (CW.region (sd rfl (yl_assign rfl rfl (SeqR.done (tn (CW.ret (br (tr ?_)))))))))
      refine tr ?_
      have hB107 : B_l_eqTableS_0 p_a p_b k4 () = .ret false := by simp only [B_l_eqTableS_0, hb3, hb101, cond_true, cond_false, loopE_done, loopE_ret]
      have hL106 : loopM (B_l_eqTableS_0 p_a p_b) (p_a.length - 0) 0 () = .ret false := hI12.symm.trans (loopM.ret hlt21 hB107)
      refine br (tr (rr rfl (.cons rfl .nil) ?_))
      have hM108 : (l_eqTableS p_a p_b) = (false) := by simp only [l_eqTableS, hb3, hb101, hL106, cond_true, cond_false, loopE_done, loopE_ret]
      rw [hM108]
      exact ⟨rfl, (Ex.trans hf19 hE96)⟩
   ·refine CW.seq (CW.seq (CW.region (sd rfl (yl_move rfl rfl (sd rfl (yl_move rfl rfl (sd rfl (yl_len Tryz.un37 rfl rfl (sd rfl (yl_lss rfl rfl rfl (SeqR.done (tn ?_))))))))))))
    refine CW.cond_f rfl (lt_f hlt21) (CW.exit (tx (tx ?_)))
    have hL110 : loopM (B_l_eqTableS_0 p_a p_b) (p_a.length - 0) 0 () = .done () := hI12.symm.trans (loopM.stop hlt21)
    refine bx (tn (CW.seq (CW.region (sd rfl (yl_assign rfl rfl (SeqR.done (tn (CW.ret (rr rfl (.cons rfl .nil) ?_)))))))))
    have hM111 : (l_eqTableS p_a p_b) = (true) := by simp only [l_eqTableS, hb3, hL110, cond_true, cond_false, loopE_done, loopE_ret]
    rw [hM111]
    exact ⟨rfl, hf19⟩
 ·have hb3p := dec_f hb3
  refine CW.cond_t rfl (not_f hb3) (CW.seq (CW.region (sd rfl (yl_assign rfl rfl (SeqR.done (tn (CW.ret (tr (rr rfl (.cons rfl .nil) ?_)))))))))
  have hM112 : (l_eqTableS p_a p_b) = (false) := by simp only [l_eqTableS, hb3, cond_true, cond_false, loopE_done, loopE_ret]
  rw [hM112]
  exact ⟨rfl, (Ex.refl w)⟩
set_option maxRecDepth 100000 in
set_option maxHeartbeats 2000000 in
theorem c_l_eqIntS {A1 : Option Addr} {c1 : Nat} {A2 : Option Addr} {c2 : Nat} {w : World} (p_a : List Int) (p_b : List Int) (h1 : RdS w (Iv 0 w.heap.size) (RF e_Int) 1 A1 p_a.length c1 p_a) (h2 : RdS w (Iv 0 w.heap.size) (RF e_Int) 1 A2 p_b.length c2 p_b) : Cal Tryz.prog 37 #[.slice A1 p_a.length c1, .slice A2 p_b.length c2] w fun v w' => v = .bool ((l_eqIntS p_a p_b)) ∧ Ex w w' := by
 refine Cal.of (vs := [.slice A1 p_a.length c1, .slice A2 p_b.length c2]) Tryz.func37 rfl Tryz.ntmps37 rfl (CW.seq (CW.region (sd rfl (yl_assign rfl rfl (SeqR.done (tn (CW.seq (CW.seq (CW.region ?_)))))))))
 refine sd rfl (yl_move rfl rfl (sd rfl (yl_len Tryz.un23 rfl rfl (sd rfl (yl_move rfl rfl (sd rfl (yl_len Tryz.un23 rfl rfl (sd rfl (yl_neq rfl rfl rfl (SeqR.done (tn (bcase (decide ((p_a.length : Int) = (p_b.length : Int))) (fun hb3 => ?_) (fun hb3 => ?_)))))))))))))
 ·have hb3p := dec_t hb3
  refine CW.cond_f rfl (not_t hb3) (CW.skip (tn (CW.seq (CW.seq (CW.region (sd rfl (yl_assign rfl rfl (SeqR.done (tn ?_)))))))))
  refine CW.block (CW.loop (fun m5 L6 w7 => ∃ (k4 : Nat), m5 = p_a.length - k4 ∧ k4 ≤ p_a.length ∧ w.heap.size ≤ w7.heap.size ∧ lkp L6 0 = some (.slice A1 p_a.length c1) ∧ lkp L6 1 = some (.slice A2 p_b.length c2) ∧ lkp L6 5 = some (.int .i64 ((k4 : Int))) ∧ RdS w7 (Iv 0 w.heap.size) (RF e_Int) 1 A1 p_a.length c1 p_a ∧ RdS w7 (Iv 0 w.heap.size) (RF e_Int) 1 A2 p_b.length c2 p_b ∧ Ex w w7 ∧ loopM (B_l_eqIntS_0 p_a p_b) (p_a.length - k4) k4 () = loopM (B_l_eqIntS_0 p_a p_b) (p_a.length - 0) 0 ()) (p_a.length - 0) ?_ ?_)
  ·exact ⟨0, rfl, (by omega), Nat.le_refl _, rfl, rfl, rfl, h1, h2, (Ex.refl w), rfl⟩
  ·rintro m8 L9 w10 ⟨k4, rfl, hk11, hsz13, hl14, hl15, hl16, hf17, hf18, hf19, hI12⟩
   refine CW.sub (Sub.cons hl14 (Sub.cons hl15 (Sub.cons hl16 (Sub.nil _)))) ?_
   have hf19z := Ex.size hf19
   have hbg20 := RdS.big hf17
   rcases Nat.lt_or_ge k4 p_a.length with hlt21 | hlt21
   ·refine CW.seq (CW.seq (CW.region (sd rfl (yl_move rfl rfl (sd rfl (yl_move rfl rfl (sd rfl (yl_len Tryz.un23 rfl rfl (sd rfl (yl_lss rfl rfl rfl (SeqR.done (tn ?_))))))))))))
    refine CW.cond_t rfl (lt_t hlt21) (CW.skip (tn (CW.seq (CW.block (CW.seq ?_)))))
    obtain ⟨eb22, eo22, ec22, eA22, eS22, ebl22, el22, eR22, eC22⟩ := RdS.atD hf17 d_Int (i := k4) (by first | omega | assumption)
    obtain rfl := eR22
    have eC22 : Cells w10 eb22 (eo22 + k4 * 1) [.int .i64 ((p_a.getD k4 d_Int))] := eC22
    obtain ⟨eb23, eo23, ec23, eA23, eS23, ebl23, el23, eR23, eC23⟩ := RdS.atD hf18 d_Int (i := k4) (by first | omega | assumption)
    obtain rfl := eR23
    have eC23 : Cells w10 eb23 (eo23 + k4 * 1) [.int .i64 ((p_b.getD k4 d_Int))] := eC23
    refine CW.drawsI 9 (vgetI [DetI (.slice A1 p_a.length c1), DetI (.int .i64 ((k4 : Int))), DetI (.pointer (some ⟨eb22, eo22 + k4 * 1, none⟩)), DetI (.int .i64 ((p_a.getD k4 d_Int))), DetI (.slice A2 p_b.length c2), DetI (.int .i64 ((k4 : Int))), DetI (.pointer (some ⟨eb23, eo23 + k4 * 1, none⟩)), DetI (.int .i64 ((p_b.getD k4 d_Int))), DetI (.bool (!(decide ((p_a.getD k4 d_Int) = (p_b.getD k4 d_Int)))))]) Tryz.follows rfl rfl rfl rfl rfl rfl (vgetI_stable ⟨StableI.det _, StableI.det _, StableI.det _, StableI.det _, StableI.det _, StableI.det _, StableI.det _, StableI.det _, StableI.det _, trivial⟩) ⟨?_, ?_, ?_, ?_, ?_, ?_, ?_, ?_, ?_, trivial⟩ ?_
    ·exact fun _ _ h => os rfl ((yl_move rfl (h.old 0 _ rfl rfl) kI))
    ·exact fun _ _ h => os rfl ((yl_move rfl (h.old 5 _ rfl rfl) kI))
    ·intro L34 w35 hi36
     have hE37 := hi36.ex
     have hE37z := Ex.size hE37
     exact os rfl ((yl_indexAddrN Tryz.un23 Tryz.ty3 rfl (hi36.dt 0 17 rfl rfl rfl) (hi36.dt 1 18 rfl rfl rfl) eA22 (by first | omega | assumption | (simp only [IntKind.wrap_i64] at *; omega)) kI))
    ·exact fun _ _ h => os rfl ((yl_load1 Tryz.ty3 rfl (h.dt 2 19 rfl rfl rfl) ((Cells.ex eC22 h.ex) 0 _ rfl) kI))
    ·exact fun _ _ h => os rfl ((yl_move rfl (h.old 1 _ rfl rfl) kI))
    ·exact fun _ _ h => os rfl ((yl_move rfl (h.old 5 _ rfl rfl) kI))
    ·intro L56 w57 hi58
     have hE59 := hi58.ex
     have hE59z := Ex.size hE59
     exact os rfl ((yl_indexAddrN Tryz.un23 Tryz.ty3 rfl (hi58.dt 4 21 rfl rfl rfl) (hi58.dt 5 22 rfl rfl rfl) eA23 (by first | omega | assumption | (simp only [IntKind.wrap_i64] at *; omega)) kI))
    ·exact fun _ _ h => os rfl ((yl_load1 Tryz.ty3 rfl (h.dt 6 23 rfl rfl rfl) ((Cells.ex eC23 h.ex) 0 _ rfl) kI))
    ·exact fun _ _ h => os rfl ((yl_neq rfl (h.dt 3 20 rfl rfl rfl) (h.dt 7 24 rfl rfl rfl) kI))
    ·intro fl77 fh78 L74 w75 hp76
     have hE79 := hp76.ex
     have hE79z := Ex.size hE79
     refine SeqR.done (tn (CW.sub (Sub.cons (d := 0) (hp76.old 0 _ rfl rfl) (Sub.cons (d := 1) (hp76.old 1 _ rfl rfl) (Sub.cons (d := 5) (hp76.old 5 _ rfl rfl) (Sub.cons (d := 25) (hp76.nt 8 25 rfl rfl rfl) (Sub.nil _))))) (bcase (decide ((p_a.getD k4 d_Int) = (p_b.getD k4 d_Int))) (fun hb84 => ?_) (fun hb84 => ?_))))
     ·have hb84p := dec_t hb84
      refine CW.cond_f rfl (not_t hb84) (CW.skip (bn (tn (CW.region (sd rfl (yl_move rfl rfl (sd rfl (yl_inc rfl rfl rfl (by omega) (sd rfl (yl_assign rfl rfl (SeqR.done ?_)))))))))))
      refine tn ?_
      have hB85 : B_l_eqIntS_0 p_a p_b k4 () = .cont () := by simp only [B_l_eqIntS_0, hb3, hb84, cond_true, cond_false, loopE_done, loopE_ret]
      exact ⟨p_a.length - (k4 + 1), by omega, k4 + 1, rfl, hlt21, (by omega), rfl, rfl, rfl, (RdS.ex good_Int hf17 hE79), (RdS.ex good_Int hf18 hE79), (Ex.trans hf19 hE79), (loopM.cont hlt21 hB85).symm.trans hI12⟩
     ·have hb84p := dec_f hb84
      refine CW.cond_t rfl (not_f hb84) (CW.seq (CW.region (sd rfl (yl_assign rfl rfl (SeqR.done (tn (CW.ret (br (tr ?_)))))))))
      refine tr ?_
      have hB90 : B_l_eqIntS_0 p_a p_b k4 () = .ret false := by simp only [B_l_eqIntS_0, hb3, hb84, cond_true, cond_false, loopE_done, loopE_ret]
      have hL89 : loopM (B_l_eqIntS_0 p_a p_b) (p_a.length - 0) 0 () = .ret false := hI12.symm.trans (loopM.ret hlt21 hB90)
      refine br (tr (rr rfl (.cons rfl .nil) ?_))
      have hM91 : (l_eqIntS p_a p_b) = (false) := by simp only [l_eqIntS, hb3, hb84, hL89, cond_true, cond_false, loopE_done, loopE_ret]
      rw [hM91]
      exact ⟨rfl, (Ex.trans hf19 hE79)⟩
   ·refine CW.seq (CW.seq (CW.region (sd rfl (yl_move rfl rfl (sd rfl (yl_move rfl rfl (sd rfl (yl_len Tryz.un23 rfl rfl (sd rfl (yl_lss rfl rfl rfl (SeqR.done (tn ?_))))))))))))
    refine CW.cond_f rfl (lt_f hlt21) (CW.exit (tx (tx ?_)))
    have hL93 : loopM (B_l_eqIntS_0 p_a p_b) (p_a.length - 0) 0 () = .done () := hI12.symm.trans (loopM.stop hlt21)
    refine bx (tn (CW.seq (CW.region (sd rfl (yl_assign rfl rfl (SeqR.done (tn (CW.ret (rr rfl (.cons rfl .nil) ?_)))))))))
    have hM94 : (l_eqIntS p_a p_b) = (true) := by simp only [l_eqIntS, hb3, hL93, cond_true, cond_false, loopE_done, loopE_ret]
    rw [hM94]
    exact ⟨rfl, hf19⟩
 ·have hb3p := dec_f hb3
  refine CW.cond_t rfl (not_f hb3) (CW.seq (CW.region (sd rfl (yl_assign rfl rfl (SeqR.done (tn (CW.ret (tr (rr rfl (.cons rfl .nil) ?_)))))))))
  have hM95 : (l_eqIntS p_a p_b) = (false) := by simp only [l_eqIntS, hb3, cond_true, cond_false, loopE_done, loopE_ret]
  rw [hM95]
  exact ⟨rfl, (Ex.refl w)⟩
set_option maxRecDepth 100000 in
set_option maxHeartbeats 2000000 in
theorem c_l_eqWrite {w : World} (p_a : DWrite) (p_b : DWrite) : Cal Tryz.prog 78 #[.agg #[.string (bs (p_a.Key)), .string (bs (p_a.Val)), .bool (p_a.Gone)], .agg #[.string (bs (p_b.Key)), .string (bs (p_b.Val)), .bool (p_b.Gone)]] w fun v w' => v = .bool ((l_eqWrite p_a p_b)) ∧ Ex w w' := by
 refine Cal.of (vs := [.agg #[.string (bs (p_a.Key)), .string (bs (p_a.Val)), .bool (p_a.Gone)], .agg #[.string (bs (p_b.Key)), .string (bs (p_b.Val)), .bool (p_b.Gone)]]) Tryz.func78 rfl Tryz.ntmps78 rfl (CW.seq (CW.region (sd rfl (yl_box (cs := [.string (bs (p_a.Key)), .string (bs (p_a.Val)), .bool (p_a.Gone)]) rfl rfl rfl ?_))))
 intro b1 w2 hs3 hz4 hB5 hE6
 refine sd rfl (yl_box (cs := [.string (bs (p_b.Key)), .string (bs (p_b.Val)), .bool (p_b.Gone)]) rfl rfl rfl ?_)
 intro b7 w8 hs9 hz10 hB11 hE12
 refine sd rfl (yl_assign rfl rfl (SeqR.done (tn (CW.seq (CW.seq (CW.region (sd rfl (yl_fieldAddr Tryz.fd112_0 rfl rfl ?_))))))))
 have q13 := Box.ex hB5 hE12
 refine sd rfl (yl_load1 Tryz.ty9 rfl rfl ((q13.cell 0).trans rfl) (sd rfl (yl_fieldAddr Tryz.fd112_0 rfl rfl (sd rfl (yl_load1 Tryz.ty9 rfl rfl ((hB11.cell 0).trans rfl) (sd rfl (yl_sneq (a := p_a.Key) (b := p_b.Key) rfl rfl rfl (SeqR.done (tn (bcase (p_a.Key == p_b.Key) (fun hb14 => ?_) (fun hb14 => ?_)))))))))))
 ·refine CW.cond_f rfl (not_t hb14) (CW.skip (tn (CW.seq (CW.seq (CW.region (sd rfl (yl_fieldAddr Tryz.fd112_1 rfl rfl (sd rfl (yl_load1 Tryz.ty9 rfl rfl ((q13.cell 1).trans rfl) (sd rfl (yl_fieldAddr Tryz.fd112_1 rfl rfl ?_)))))))))))
  refine sd rfl (yl_load1 Tryz.ty9 rfl rfl ((hB11.cell 1).trans rfl) (sd rfl (yl_sneq (a := p_a.Val) (b := p_b.Val) rfl rfl rfl (SeqR.done (tn (bcase (p_a.Val == p_b.Val) (fun hb15 => ?_) (fun hb15 => ?_)))))))
  ·refine CW.cond_f rfl (not_t hb15) (CW.skip (tn (CW.seq (CW.seq (CW.region (sd rfl (yl_fieldAddr Tryz.fd112_2 rfl rfl (sd rfl (yl_load1 Tryz.ty4 rfl rfl ((q13.cell 2).trans rfl) (sd rfl (yl_fieldAddr Tryz.fd112_2 rfl rfl ?_)))))))))))
   refine sd rfl (yl_load1 Tryz.ty4 rfl rfl ((hB11.cell 2).trans rfl) (sd rfl (yl_bneq Tryz.un4 rfl rfl rfl (SeqR.done (tn (bcase (p_a.Gone == p_b.Gone) (fun hb16 => ?_) (fun hb16 => ?_)))))))
   ·refine CW.cond_f rfl (not_t hb16) (CW.skip (tn (CW.seq (CW.region (sd rfl (yl_assign rfl rfl (SeqR.done (tn (CW.ret ?_)))))))))
    refine rr rfl (.cons rfl .nil) ?_
    have hM17 : (l_eqWrite p_a p_b) = (true) := by simp only [l_eqWrite, hb14, hb15, hb16, cond_true, cond_false, loopE_done, loopE_ret]
    rw [hM17]
    exact ⟨rfl, (Ex.trans (Ex.trans (Ex.refl w) hE6) hE12)⟩
   ·refine CW.cond_t rfl (not_f hb16) (CW.seq (CW.region (sd rfl (yl_assign rfl rfl (SeqR.done (tn (CW.ret (tr (rr rfl (.cons rfl .nil) ?_)))))))))
    have hM20 : (l_eqWrite p_a p_b) = (false) := by simp only [l_eqWrite, hb14, hb15, hb16, cond_true, cond_false, loopE_done, loopE_ret]
    rw [hM20]
    exact ⟨rfl, (Ex.trans (Ex.trans (Ex.refl w) hE6) hE12)⟩
  ·refine CW.cond_t rfl (not_f hb15) (CW.seq (CW.region (sd rfl (yl_assign rfl rfl (SeqR.done (tn (CW.ret (tr (rr rfl (.cons rfl .nil) ?_)))))))))
   have hM23 : (l_eqWrite p_a p_b) = (false) := by simp only [l_eqWrite, hb14, hb15, cond_true, cond_false, loopE_done, loopE_ret]
   rw [hM23]
   exact ⟨rfl, (Ex.trans (Ex.trans (Ex.refl w) hE6) hE12)⟩
 ·refine CW.cond_t rfl (not_f hb14) (CW.seq (CW.region (sd rfl (yl_assign rfl rfl (SeqR.done (tn (CW.ret (tr (rr rfl (.cons rfl .nil) ?_)))))))))
  have hM26 : (l_eqWrite p_a p_b) = (false) := by simp only [l_eqWrite, hb14, cond_true, cond_false, loopE_done, loopE_ret]
  rw [hM26]
  exact ⟨rfl, (Ex.trans (Ex.trans (Ex.refl w) hE6) hE12)⟩
set_option maxRecDepth 100000 in
set_option maxHeartbeats 2000000 in
theorem c_l_eqWriteS {A1 : Option Addr} {c1 : Nat} {A2 : Option Addr} {c2 : Nat} {w : World} (p_a : List DWrite) (p_b : List DWrite) (h1 : RdS w (Iv 0 w.heap.size) (RF e_Write) 3 A1 p_a.length c1 p_a) (h2 : RdS w (Iv 0 w.heap.size) (RF e_Write) 3 A2 p_b.length c2 p_b) : Cal Tryz.prog 38 #[.slice A1 p_a.length c1, .slice A2 p_b.length c2] w fun v w' => v = .bool ((l_eqWriteS p_a p_b)) ∧ Ex w w' := by
 refine Cal.of (vs := [.slice A1 p_a.length c1, .slice A2 p_b.length c2]) Tryz.func38 rfl Tryz.ntmps38 rfl (CW.seq (CW.region (sd rfl (yl_assign rfl rfl (SeqR.done (tn (CW.seq (CW.seq (CW.region ?_)))))))))
 refine sd rfl (yl_move rfl rfl (sd rfl (yl_len Tryz.un38 rfl rfl (sd rfl (yl_move rfl rfl (sd rfl (yl_len Tryz.un38 rfl rfl (sd rfl (yl_neq rfl rfl rfl (SeqR.done (tn (bcase (decide ((p_a.length : Int) = (p_b.length : Int))) (fun hb3 => ?_) (fun hb3 => ?_)))))))))))))
 ·have hb3p := dec_t hb3
  refine CW.cond_f rfl (not_t hb3) (CW.skip (tn (CW.seq (CW.seq (CW.region (sd rfl (yl_assign rfl rfl (SeqR.done (tn ?_)))))))))
  refine CW.block (CW.loop (fun m5 L6 w7 => ∃ (k4 : Nat), m5 = p_a.length - k4 ∧ k4 ≤ p_a.length ∧ w.heap.size ≤ w7.heap.size ∧ lkp L6 0 = some (.slice A1 p_a.length c1) ∧ lkp L6 1 = some (.slice A2 p_b.length c2) ∧ lkp L6 5 = some (.int .i64 ((k4 : Int))) ∧ RdS w7 (Iv 0 w.heap.size) (RF e_Write) 3 A1 p_a.length c1 p_a ∧ RdS w7 (Iv 0 w.heap.size) (RF e_Write) 3 A2 p_b.length c2 p_b ∧ Ex w w7 ∧ loopM (B_l_eqWriteS_0 p_a p_b) (p_a.length - k4) k4 () = loopM (B_l_eqWriteS_0 p_a p_b) (p_a.length - 0) 0 ()) (p_a.length - 0) ?_ ?_)
  ·exact ⟨0, rfl, (by omega), Nat.le_refl _, rfl, rfl, rfl, h1, h2, (Ex.refl w), rfl⟩
  ·rintro m8 L9 w10 ⟨k4, rfl, hk11, hsz13, hl14, hl15, hl16, hf17, hf18, hf19, hI12⟩
   refine CW.sub (Sub.cons hl14 (Sub.cons hl15 (Sub.cons hl16 (Sub.nil _)))) ?_
   have hf19z := Ex.size hf19
   have hbg20 := RdS.big hf17
   rcases Nat.lt_or_ge k4 p_a.length with hlt21 | hlt21
   ·refine CW.seq (CW.seq (CW.region (sd rfl (yl_move rfl rfl (sd rfl (yl_move rfl rfl (sd rfl (yl_len Tryz.un38 rfl rfl (sd rfl (yl_lss rfl rfl rfl (SeqR.done (tn ?_))))))))))))
    refine CW.cond_t rfl (lt_t hlt21) (CW.skip (tn (CW.seq (CW.block (CW.seq ?_)))))
    obtain ⟨eb22, eo22, ec22, eA22, eS22, ebl22, el22, eR22, eC22⟩ := RdS.atD hf17 d_Write (i := k4) (by first | omega | assumption)
    obtain rfl := eR22
    have eC22 : Cells w10 eb22 (eo22 + k4 * 3) [.string (bs ((p_a.getD k4 d_Write).Key)), .string (bs ((p_a.getD k4 d_Write).Val)), .bool ((p_a.getD k4 d_Write).Gone)] := eC22
    obtain ⟨eb23, eo23, ec23, eA23, eS23, ebl23, el23, eR23, eC23⟩ := RdS.atD hf18 d_Write (i := k4) (by first | omega | assumption)
    obtain rfl := eR23
    have eC23 : Cells w10 eb23 (eo23 + k4 * 3) [.string (bs ((p_b.getD k4 d_Write).Key)), .string (bs ((p_b.getD k4 d_Write).Val)), .bool ((p_b.getD k4 d_Write).Gone)] := eC23
    refine CW.drawsI 10 (vgetI [DetI (.slice A1 p_a.length c1), DetI (.int .i64 ((k4 : Int))), DetI (.pointer (some ⟨eb22, eo22 + k4 * 3, none⟩)), DetI (.agg #[.string (bs ((p_a.getD k4 d_Write).Key)), .string (bs ((p_a.getD k4 d_Write).Val)), .bool ((p_a.getD k4 d_Write).Gone)]), DetI (.slice A2 p_b.length c2), DetI (.int .i64 ((k4 : Int))), DetI (.pointer (some ⟨eb23, eo23 + k4 * 3, none⟩)), DetI (.agg #[.string (bs ((p_b.getD k4 d_Write).Key)), .string (bs ((p_b.getD k4 d_Write).Val)), .bool ((p_b.getD k4 d_Write).Gone)]), DetI (.bool ((l_eqWrite (p_a.getD k4 d_Write) (p_b.getD k4 d_Write)))), DetI (.bool (!(l_eqWrite (p_a.getD k4 d_Write) (p_b.getD k4 d_Write))))]) Tryz.follows rfl rfl rfl rfl rfl rfl (vgetI_stable ⟨StableI.det _, StableI.det _, StableI.det _, StableI.det _, StableI.det _, StableI.det _, StableI.det _, StableI.det _, StableI.det _, StableI.det _, trivial⟩) ⟨?_, ?_, ?_, ?_, ?_, ?_, ?_, ?_, ?_, ?_, trivial⟩ ?_
    ·exact fun _ _ h => os rfl ((yl_move rfl (h.old 0 _ rfl rfl) kI))
    ·exact fun _ _ h => os rfl ((yl_move rfl (h.old 5 _ rfl rfl) kI))
    ·intro L35 w36 hi37
     have hE38 := hi37.ex
     have hE38z := Ex.size hE38
     exact os rfl ((yl_indexAddrN Tryz.un38 Tryz.ty112 rfl (hi37.dt 0 17 rfl rfl rfl) (hi37.dt 1 18 rfl rfl rfl) eA22 (by first | omega | assumption | (simp only [IntKind.wrap_i64] at *; omega)) kI))
    ·exact fun _ _ h => os rfl ((yl_loadN (cs := [.string (bs ((p_a.getD k4 d_Write).Key)), .string (bs ((p_a.getD k4 d_Write).Val)), .bool ((p_a.getD k4 d_Write).Gone)]) Tryz.ty112 rfl (h.dt 2 19 rfl rfl rfl) (Cells.ex eC22 h.ex) rfl kI))
    ·exact fun _ _ h => os rfl ((yl_move rfl (h.old 1 _ rfl rfl) kI))
    ·exact fun _ _ h => os rfl ((yl_move rfl (h.old 5 _ rfl rfl) kI))
    ·intro L57 w58 hi59
     have hE60 := hi59.ex
     have hE60z := Ex.size hE60
     exact os rfl ((yl_indexAddrN Tryz.un38 Tryz.ty112 rfl (hi59.dt 4 21 rfl rfl rfl) (hi59.dt 5 22 rfl rfl rfl) eA23 (by first | omega | assumption | (simp only [IntKind.wrap_i64] at *; omega)) kI))
    ·exact fun _ _ h => os rfl ((yl_loadN (cs := [.string (bs ((p_b.getD k4 d_Write).Key)), .string (bs ((p_b.getD k4 d_Write).Val)), .bool ((p_b.getD k4 d_Write).Gone)]) Tryz.ty112 rfl (h.dt 6 23 rfl rfl rfl) (Cells.ex eC23 h.ex) rfl kI))
    ·intro L69 w70 hi71
     refine OpR.op' rfl (yl_call Tryz.en78 rfl (opvs_cons (hi71.dt 3 20 rfl rfl rfl) (opvs_cons (hi71.dt 7 24 rfl rfl rfl) opvs_nil)) (Cal.mono (c_l_eqWrite (p_a.getD k4 d_Write) (p_b.getD k4 d_Write)) ?_))
     rintro v76 w75 ⟨rfl, hE77⟩
     exact ⟨rfl, hE77⟩
    ·exact fun _ _ h => os rfl ((yl_not rfl (h.dt 8 25 rfl rfl rfl) kI))
    ·intro fl86 fh87 L83 w84 hp85
     have hE88 := hp85.ex
     have hE88z := Ex.size hE88
     refine SeqR.done (tn (CW.sub (Sub.cons (d := 0) (hp85.old 0 _ rfl rfl) (Sub.cons (d := 1) (hp85.old 1 _ rfl rfl) (Sub.cons (d := 5) (hp85.old 5 _ rfl rfl) (Sub.cons (d := 26) (hp85.nt 9 26 rfl rfl rfl) (Sub.nil _))))) (bcase (l_eqWrite (p_a.getD k4 d_Write) (p_b.getD k4 d_Write)) (fun hb93 => ?_) (fun hb93 => ?_))))
     ·refine CW.cond_f rfl (not_t hb93) (CW.skip (bn (tn (CW.region (sd rfl (yl_move rfl rfl (sd rfl (yl_inc rfl rfl rfl (by omega) (sd rfl (yl_assign rfl rfl (SeqR.done ?_)))))))))))
      refine tn ?_
      have hB94 : B_l_eqWriteS_0 p_a p_b k4 () = .cont () := by simp only [B_l_eqWriteS_0, hb3, hb93, cond_true, cond_false, loopE_done, loopE_ret]
      exact ⟨p_a.length - (k4 + 1), by omega, k4 + 1, rfl, hlt21, (by omega), rfl, rfl, rfl, (RdS.ex good_Write hf17 hE88), (RdS.ex good_Write hf18 hE88), (Ex.trans hf19 hE88), (loopM.cont hlt21 hB94).symm.trans hI12⟩
     ·refine CW.cond_t rfl (not_f hb93) (CW.seq (CW.region (sd rfl (yl_assign rfl rfl (SeqR.done (tn (CW.ret (br (tr ?_)))))))))
      refine tr ?_
      have hB99 : B_l_eqWriteS_0 p_a p_b k4 () = .ret false := by simp only [B_l_eqWriteS_0, hb3, hb93, cond_true, cond_false, loopE_done, loopE_ret]
      have hL98 : loopM (B_l_eqWriteS_0 p_a p_b) (p_a.length - 0) 0 () = .ret false := hI12.symm.trans (loopM.ret hlt21 hB99)
      refine br (tr (rr rfl (.cons rfl .nil) ?_))
      have hM100 : (l_eqWriteS p_a p_b) = (false) := by simp only [l_eqWriteS, hb3, hb93, hL98, cond_true, cond_false, loopE_done, loopE_ret]
      rw [hM100]
      exact ⟨rfl, (Ex.trans hf19 hE88)⟩
   ·refine CW.seq (CW.seq (CW.region (sd rfl (yl_move rfl rfl (sd rfl (yl_move rfl rfl (sd rfl (yl_len Tryz.un38 rfl rfl (sd rfl (yl_lss rfl rfl rfl (SeqR.done (tn ?_))))))))))))
    refine CW.cond_f rfl (lt_f hlt21) (CW.exit (tx (tx ?_)))
    have hL102 : loopM (B_l_eqWriteS_0 p_a p_b) (p_a.length - 0) 0 () = .done () := hI12.symm.trans (loopM.stop hlt21)
    refine bx (tn (CW.seq (CW.region (sd rfl (yl_assign rfl rfl (SeqR.done (tn (CW.ret (rr rfl (.cons rfl .nil) ?_)))))))))
    have hM103 : (l_eqWriteS p_a p_b) = (true) := by simp only [l_eqWriteS, hb3, hL102, cond_true, cond_false, loopE_done, loopE_ret]
    rw [hM103]
    exact ⟨rfl, hf19⟩
 ·have hb3p := dec_f hb3
  refine CW.cond_t rfl (not_f hb3) (CW.seq (CW.region (sd rfl (yl_assign rfl rfl (SeqR.done (tn (CW.ret (tr (rr rfl (.cons rfl .nil) ?_)))))))))
  have hM104 : (l_eqWriteS p_a p_b) = (false) := by simp only [l_eqWriteS, hb3, cond_true, cond_false, loopE_done, loopE_ret]
  rw [hM104]
  exact ⟨rfl, (Ex.refl w)⟩
set_option maxRecDepth 100000 in
set_option maxHeartbeats 2000000 in
theorem c_l_eqShift {A1 : Option Addr} {c1 : Nat} {A2 : Option Addr} {c2 : Nat} {A3 : Option Addr} {c3 : Nat} {A4 : Option Addr} {c4 : Nat} {A5 : Option Addr} {c5 : Nat} {A6 : Option Addr} {c6 : Nat} {w : World} (p_a : DShift) (p_b : DShift) (h1 : RdS w (Iv 0 w.heap.size) R_Table 3 A1 p_a.Ways.length c1 p_a.Ways) (h2 : RdS w (Iv 0 w.heap.size) (RF e_Int) 1 A2 p_a.At.length c2 p_a.At) (h3 : RdS w (Iv 0 w.heap.size) (RF e_Write) 3 A3 p_a.Store.length c3 p_a.Store) (h4 : RdS w (Iv 0 w.heap.size) R_Table 3 A4 p_b.Ways.length c4 p_b.Ways) (h5 : RdS w (Iv 0 w.heap.size) (RF e_Int) 1 A5 p_b.At.length c5 p_b.At) (h6 : RdS w (Iv 0 w.heap.size) (RF e_Write) 3 A6 p_b.Store.length c6 p_b.Store) : Cal Tryz.prog 12 #[.agg #[.string (bs (p_a.Name)), .slice A1 p_a.Ways.length c1, .slice A2 p_a.At.length c2, .slice A3 p_a.Store.length c3], .agg #[.string (bs (p_b.Name)), .slice A4 p_b.Ways.length c4, .slice A5 p_b.At.length c5, .slice A6 p_b.Store.length c6]] w fun v w' => v = .bool ((l_eqShift p_a p_b)) ∧ Ex w w' := by
 refine Cal.of (vs := [.agg #[.string (bs (p_a.Name)), .slice A1 p_a.Ways.length c1, .slice A2 p_a.At.length c2, .slice A3 p_a.Store.length c3], .agg #[.string (bs (p_b.Name)), .slice A4 p_b.Ways.length c4, .slice A5 p_b.At.length c5, .slice A6 p_b.Store.length c6]]) Tryz.func12 rfl Tryz.ntmps12 rfl (CW.seq (CW.region (sd rfl (yl_box (cs := [.string (bs (p_a.Name)), .slice A1 p_a.Ways.length c1, .slice A2 p_a.At.length c2, .slice A3 p_a.Store.length c3]) rfl rfl rfl ?_))))
 intro b7 w8 hs9 hz10 hB11 hE12
 refine sd rfl (yl_box (cs := [.string (bs (p_b.Name)), .slice A4 p_b.Ways.length c4, .slice A5 p_b.At.length c5, .slice A6 p_b.Store.length c6]) rfl rfl rfl ?_)
 intro b13 w14 hs15 hz16 hB17 hE18
 refine sd rfl (yl_assign rfl rfl (SeqR.done (tn (CW.seq (CW.seq (CW.region (sd rfl (yl_fieldAddr Tryz.fd40_0 rfl rfl ?_))))))))
 have q19 := Box.ex hB11 hE18
 refine sd rfl (yl_load1 Tryz.ty9 rfl rfl ((q19.cell 0).trans rfl) (sd rfl (yl_fieldAddr Tryz.fd40_0 rfl rfl (sd rfl (yl_load1 Tryz.ty9 rfl rfl ((hB17.cell 0).trans rfl) (sd rfl (yl_sneq (a := p_a.Name) (b := p_b.Name) rfl rfl rfl (SeqR.done (tn (bcase (p_a.Name == p_b.Name) (fun hb20 => ?_) (fun hb20 => ?_)))))))))))
 ·refine CW.cond_f rfl (not_t hb20) (CW.skip (tn (CW.seq (CW.seq (CW.region (sd rfl (yl_fieldAddr Tryz.fd40_1 rfl rfl (sd rfl (yl_load1 Tryz.ty37 rfl rfl ((q19.cell 1).trans rfl) (sd rfl (yl_fieldAddr Tryz.fd40_1 rfl rfl ?_)))))))))))
  refine sd rfl (yl_load1 Tryz.ty37 rfl rfl ((hB17.cell 1).trans rfl) (sd rfl (yl_call Tryz.en36 rfl (opvs_cons rfl (opvs_cons rfl opvs_nil)) (Cal.mono (c_l_eqTableS p_a.Ways p_b.Ways (RdS.up (RdS.ex good_Table (RdS.ex good_Table h1 hE12) hE18) good_Table) (RdS.up (RdS.ex good_Table (RdS.ex good_Table h4 hE12) hE18) good_Table)) ?_))))
  rintro v26 w25 ⟨rfl, hE27⟩
  have hE27z := Ex.size hE27
  refine sd rfl (yl_not rfl rfl (SeqR.done (tn (bcase (l_eqTableS p_a.Ways p_b.Ways) (fun hb28 => ?_) (fun hb28 => ?_)))))
  ·refine CW.cond_f rfl (not_t hb28) (CW.skip (tn (CW.seq (CW.seq (CW.region (sd rfl (yl_fieldAddr Tryz.fd40_2 rfl rfl ?_)))))))
   have q29 := Box.ex q19 hE27
   refine sd rfl (yl_load1 Tryz.ty23 rfl rfl ((q29.cell 2).trans rfl) (sd rfl (yl_fieldAddr Tryz.fd40_2 rfl rfl ?_)))
   have q30 := Box.ex hB17 hE27
   refine sd rfl (yl_load1 Tryz.ty23 rfl rfl ((q30.cell 2).trans rfl) (sd rfl (yl_call Tryz.en37 rfl (opvs_cons rfl (opvs_cons rfl opvs_nil)) (Cal.mono (c_l_eqIntS p_a.At p_b.At (RdS.up (RdS.ex good_Int (RdS.ex good_Int (RdS.ex good_Int h2 hE12) hE18) hE27) good_Int) (RdS.up (RdS.ex good_Int (RdS.ex good_Int (RdS.ex good_Int h5 hE12) hE18) hE27) good_Int)) ?_))))
   rintro v38 w37 ⟨rfl, hE39⟩
   have hE39z := Ex.size hE39
   refine sd rfl (yl_not rfl rfl (SeqR.done (tn (bcase (l_eqIntS p_a.At p_b.At) (fun hb40 => ?_) (fun hb40 => ?_)))))
   ·refine CW.cond_f rfl (not_t hb40) (CW.skip (tn (CW.seq (CW.seq (CW.region (sd rfl (yl_fieldAddr Tryz.fd40_3 rfl rfl (sd rfl (yl_load1 Tryz.ty38 rfl rfl (((Box.ex q29 hE39).cell 3).trans rfl) (sd rfl (yl_fieldAddr Tryz.fd40_3 rfl rfl ?_)))))))))))
    refine sd rfl (yl_load1 Tryz.ty38 rfl rfl (((Box.ex q30 hE39).cell 3).trans rfl) (sd rfl (yl_call Tryz.en38 rfl (opvs_cons rfl (opvs_cons rfl opvs_nil)) (Cal.mono (c_l_eqWriteS p_a.Store p_b.Store (RdS.up (RdS.ex good_Write (RdS.ex good_Write (RdS.ex good_Write (RdS.ex good_Write h3 hE12) hE18) hE27) hE39) good_Write) (RdS.up (RdS.ex good_Write (RdS.ex good_Write (RdS.ex good_Write (RdS.ex good_Write h6 hE12) hE18) hE27) hE39) good_Write)) ?_))))
    rintro v52 w51 ⟨rfl, hE53⟩
    have hE53z := Ex.size hE53
    refine sd rfl (yl_not rfl rfl (SeqR.done (tn (bcase (l_eqWriteS p_a.Store p_b.Store) (fun hb54 => ?_) (fun hb54 => ?_)))))
    ·refine CW.cond_f rfl (not_t hb54) (CW.skip (tn (CW.seq (CW.region (sd rfl (yl_assign rfl rfl (SeqR.done (tn (CW.ret ?_)))))))))
     refine rr rfl (.cons rfl .nil) ?_
     have hM55 : (l_eqShift p_a p_b) = (true) := by simp only [l_eqShift, hb20, hb28, hb40, hb54, cond_true, cond_false, loopE_done, loopE_ret]
     rw [hM55]
     exact ⟨rfl, (Ex.trans (Ex.trans (Ex.trans (Ex.trans (Ex.trans (Ex.refl w) hE12) hE18) hE27) hE39) hE53)⟩
    ·refine CW.cond_t rfl (not_f hb54) (CW.seq (CW.region (sd rfl (yl_assign rfl rfl (SeqR.done (tn (CW.ret (tr (rr rfl (.cons rfl .nil) ?_)))))))))
     have hM61 : (l_eqShift p_a p_b) = (false) := by simp only [l_eqShift, hb20, hb28, hb40, hb54, cond_true, cond_false, loopE_done, loopE_ret]
     rw [hM61]
     exact ⟨rfl, (Ex.trans (Ex.trans (Ex.trans (Ex.trans (Ex.trans (Ex.refl w) hE12) hE18) hE27) hE39) hE53)⟩
   ·refine CW.cond_t rfl (not_f hb40) (CW.seq (CW.region (sd rfl (yl_assign rfl rfl (SeqR.done (tn (CW.ret (tr (rr rfl (.cons rfl .nil) ?_)))))))))
    have hM67 : (l_eqShift p_a p_b) = (false) := by simp only [l_eqShift, hb20, hb28, hb40, cond_true, cond_false, loopE_done, loopE_ret]
    rw [hM67]
    exact ⟨rfl, (Ex.trans (Ex.trans (Ex.trans (Ex.trans (Ex.refl w) hE12) hE18) hE27) hE39)⟩
  ·refine CW.cond_t rfl (not_f hb28) (CW.seq (CW.region (sd rfl (yl_assign rfl rfl (SeqR.done (tn (CW.ret (tr (rr rfl (.cons rfl .nil) ?_)))))))))
   have hM72 : (l_eqShift p_a p_b) = (false) := by simp only [l_eqShift, hb20, hb28, cond_true, cond_false, loopE_done, loopE_ret]
   rw [hM72]
   exact ⟨rfl, (Ex.trans (Ex.trans (Ex.trans (Ex.refl w) hE12) hE18) hE27)⟩
 ·refine CW.cond_t rfl (not_f hb20) (CW.seq (CW.region (sd rfl (yl_assign rfl rfl (SeqR.done (tn (CW.ret (tr (rr rfl (.cons rfl .nil) ?_)))))))))
  have hM76 : (l_eqShift p_a p_b) = (false) := by simp only [l_eqShift, hb20, cond_true, cond_false, loopE_done, loopE_ret]
  rw [hM76]
  exact ⟨rfl, (Ex.trans (Ex.trans (Ex.refl w) hE12) hE18)⟩
set_option maxRecDepth 100000 in
set_option maxHeartbeats 2000000 in
theorem c_l_eqFill {w : World} (p_a : DFill) (p_b : DFill) : Cal Tryz.prog 46 #[.agg #[.string (bs (p_a.Last)), .bool (p_a.Over)], .agg #[.string (bs (p_b.Last)), .bool (p_b.Over)]] w fun v w' => v = .bool ((l_eqFill p_a p_b)) ∧ Ex w w' := by
 refine Cal.of (vs := [.agg #[.string (bs (p_a.Last)), .bool (p_a.Over)], .agg #[.string (bs (p_b.Last)), .bool (p_b.Over)]]) Tryz.func46 rfl Tryz.ntmps46 rfl (CW.seq (CW.region (sd rfl (yl_box (cs := [.string (bs (p_a.Last)), .bool (p_a.Over)]) rfl rfl rfl ?_))))
 intro b1 w2 hs3 hz4 hB5 hE6
 refine sd rfl (yl_box (cs := [.string (bs (p_b.Last)), .bool (p_b.Over)]) rfl rfl rfl ?_)
 intro b7 w8 hs9 hz10 hB11 hE12
 refine sd rfl (yl_assign rfl rfl (SeqR.done (tn (CW.seq (CW.seq (CW.region (sd rfl (yl_fieldAddr Tryz.fd60_0 rfl rfl ?_))))))))
 have q13 := Box.ex hB5 hE12
 refine sd rfl (yl_load1 Tryz.ty9 rfl rfl ((q13.cell 0).trans rfl) (sd rfl (yl_fieldAddr Tryz.fd60_0 rfl rfl (sd rfl (yl_load1 Tryz.ty9 rfl rfl ((hB11.cell 0).trans rfl) (sd rfl (yl_sneq (a := p_a.Last) (b := p_b.Last) rfl rfl rfl (SeqR.done (tn (bcase (p_a.Last == p_b.Last) (fun hb14 => ?_) (fun hb14 => ?_)))))))))))
 ·refine CW.cond_f rfl (not_t hb14) (CW.skip (tn (CW.seq (CW.seq (CW.region (sd rfl (yl_fieldAddr Tryz.fd60_1 rfl rfl (sd rfl (yl_load1 Tryz.ty4 rfl rfl ((q13.cell 1).trans rfl) (sd rfl (yl_fieldAddr Tryz.fd60_1 rfl rfl ?_)))))))))))
  refine sd rfl (yl_load1 Tryz.ty4 rfl rfl ((hB11.cell 1).trans rfl) (sd rfl (yl_bneq Tryz.un4 rfl rfl rfl (SeqR.done (tn (bcase (p_a.Over == p_b.Over) (fun hb15 => ?_) (fun hb15 => ?_)))))))
  ·refine CW.cond_f rfl (not_t hb15) (CW.skip (tn (CW.seq (CW.region (sd rfl (yl_assign rfl rfl (SeqR.done (tn (CW.ret ?_)))))))))
   refine rr rfl (.cons rfl .nil) ?_
   have hM16 : (l_eqFill p_a p_b) = (true) := by simp only [l_eqFill, hb14, hb15, cond_true, cond_false, loopE_done, loopE_ret]
   rw [hM16]
   exact ⟨rfl, (Ex.trans (Ex.trans (Ex.refl w) hE6) hE12)⟩
  ·refine CW.cond_t rfl (not_f hb15) (CW.seq (CW.region (sd rfl (yl_assign rfl rfl (SeqR.done (tn (CW.ret (tr (rr rfl (.cons rfl .nil) ?_)))))))))
   have hM19 : (l_eqFill p_a p_b) = (false) := by simp only [l_eqFill, hb14, hb15, cond_true, cond_false, loopE_done, loopE_ret]
   rw [hM19]
   exact ⟨rfl, (Ex.trans (Ex.trans (Ex.refl w) hE6) hE12)⟩
 ·refine CW.cond_t rfl (not_f hb14) (CW.seq (CW.region (sd rfl (yl_assign rfl rfl (SeqR.done (tn (CW.ret (tr (rr rfl (.cons rfl .nil) ?_)))))))))
  have hM22 : (l_eqFill p_a p_b) = (false) := by simp only [l_eqFill, hb14, cond_true, cond_false, loopE_done, loopE_ret]
  rw [hM22]
  exact ⟨rfl, (Ex.trans (Ex.trans (Ex.refl w) hE6) hE12)⟩
set_option maxRecDepth 100000 in
set_option maxHeartbeats 2000000 in
theorem c_l_eqWork {A1 : Option Addr} {c1 : Nat} {A2 : Option Addr} {c2 : Nat} {A3 : Option Addr} {c3 : Nat} {A4 : Option Addr} {c4 : Nat} {A5 : Option Addr} {c5 : Nat} {A6 : Option Addr} {c6 : Nat} {w : World} (p_a : DWork) (p_b : DWork) (h1 : RdS w (Iv 0 w.heap.size) R_Table 3 A1 p_a.Shift.Ways.length c1 p_a.Shift.Ways) (h2 : RdS w (Iv 0 w.heap.size) (RF e_Int) 1 A2 p_a.Shift.At.length c2 p_a.Shift.At) (h3 : RdS w (Iv 0 w.heap.size) (RF e_Write) 3 A3 p_a.Shift.Store.length c3 p_a.Shift.Store) (h4 : RdS w (Iv 0 w.heap.size) R_Table 3 A4 p_b.Shift.Ways.length c4 p_b.Shift.Ways) (h5 : RdS w (Iv 0 w.heap.size) (RF e_Int) 1 A5 p_b.Shift.At.length c5 p_b.Shift.At) (h6 : RdS w (Iv 0 w.heap.size) (RF e_Write) 3 A6 p_b.Shift.Store.length c6 p_b.Shift.Store) : Cal Tryz.prog 20 #[.agg #[.string (bs (p_a.Shift.Name)), .slice A1 p_a.Shift.Ways.length c1, .slice A2 p_a.Shift.At.length c2, .slice A3 p_a.Shift.Store.length c3, .string (bs (p_a.Up.Last)), .bool (p_a.Up.Over), .string (bs (p_a.Down.Last)), .bool (p_a.Down.Over)], .agg #[.string (bs (p_b.Shift.Name)), .slice A4 p_b.Shift.Ways.length c4, .slice A5 p_b.Shift.At.length c5, .slice A6 p_b.Shift.Store.length c6, .string (bs (p_b.Up.Last)), .bool (p_b.Up.Over), .string (bs (p_b.Down.Last)), .bool (p_b.Down.Over)]] w fun v w' => v = .bool ((l_eqWork p_a p_b)) ∧ Ex w w' := by
 refine Cal.of (vs := [.agg #[.string (bs (p_a.Shift.Name)), .slice A1 p_a.Shift.Ways.length c1, .slice A2 p_a.Shift.At.length c2, .slice A3 p_a.Shift.Store.length c3, .string (bs (p_a.Up.Last)), .bool (p_a.Up.Over), .string (bs (p_a.Down.Last)), .bool (p_a.Down.Over)], .agg #[.string (bs (p_b.Shift.Name)), .slice A4 p_b.Shift.Ways.length c4, .slice A5 p_b.Shift.At.length c5, .slice A6 p_b.Shift.Store.length c6, .string (bs (p_b.Up.Last)), .bool (p_b.Up.Over), .string (bs (p_b.Down.Last)), .bool (p_b.Down.Over)]]) Tryz.func20 rfl Tryz.ntmps20 rfl (CW.seq (CW.region (sd rfl (yl_box (cs := [.string (bs (p_a.Shift.Name)), .slice A1 p_a.Shift.Ways.length c1, .slice A2 p_a.Shift.At.length c2, .slice A3 p_a.Shift.Store.length c3, .string (bs (p_a.Up.Last)), .bool (p_a.Up.Over), .string (bs (p_a.Down.Last)), .bool (p_a.Down.Over)]) rfl rfl rfl ?_))))
 intro b7 w8 hs9 hz10 hB11 hE12
 refine sd rfl (yl_box (cs := [.string (bs (p_b.Shift.Name)), .slice A4 p_b.Shift.Ways.length c4, .slice A5 p_b.Shift.At.length c5, .slice A6 p_b.Shift.Store.length c6, .string (bs (p_b.Up.Last)), .bool (p_b.Up.Over), .string (bs (p_b.Down.Last)), .bool (p_b.Down.Over)]) rfl rfl rfl ?_)
 intro b13 w14 hs15 hz16 hB17 hE18
 refine sd rfl (yl_assign rfl rfl (SeqR.done (tn (CW.seq (CW.seq (CW.region (sd rfl (yl_fieldAddr Tryz.fd62_0 rfl rfl ?_))))))))
 have q19 := Box.ex hB11 hE18
 refine sd rfl (yl_loadN (cs := [.string (bs (p_a.Shift.Name)), .slice A1 p_a.Shift.Ways.length c1, .slice A2 p_a.Shift.At.length c2, .slice A3 p_a.Shift.Store.length c3]) Tryz.ty40 rfl rfl (q19.cells (n := 4) rfl) rfl (sd rfl (yl_fieldAddr Tryz.fd62_0 rfl rfl (sd rfl (yl_loadN (cs := [.string (bs (p_b.Shift.Name)), .slice A4 p_b.Shift.Ways.length c4, .slice A5 p_b.Shift.At.length c5, .slice A6 p_b.Shift.Store.length c6]) Tryz.ty40 rfl rfl (hB17.cells (n := 4) rfl) rfl (sd rfl (yl_call Tryz.en12 rfl (opvs_cons rfl (opvs_cons rfl opvs_nil)) (Cal.mono (c_l_eqShift p_a.Shift p_b.Shift (RdS.up (RdS.ex good_Table (RdS.ex good_Table h1 hE12) hE18) good_Table) (RdS.up (RdS.ex good_Int (RdS.ex good_Int h2 hE12) hE18) good_Int) (RdS.up (RdS.ex good_Write (RdS.ex good_Write h3 hE12) hE18) good_Write) (RdS.up (RdS.ex good_Table (RdS.ex good_Table h4 hE12) hE18) good_Table) (RdS.up (RdS.ex good_Int (RdS.ex good_Int h5 hE12) hE18) good_Int) (RdS.up (RdS.ex good_Write (RdS.ex good_Write h6 hE12) hE18) good_Write)) ?_))))))))
 rintro v33 w32 ⟨rfl, hE34⟩
 have hE34z := Ex.size hE34
 refine sd rfl (yl_not rfl rfl (SeqR.done (tn (bcase (l_eqShift p_a.Shift p_b.Shift) (fun hb35 => ?_) (fun hb35 => ?_)))))
 ·refine CW.cond_f rfl (not_t hb35) (CW.skip (tn (CW.seq (CW.seq (CW.region (sd rfl (yl_fieldAddr Tryz.fd62_1 rfl rfl ?_)))))))
  have q36 := Box.ex q19 hE34
  refine sd rfl (yl_loadN (cs := [.string (bs (p_a.Up.Last)), .bool (p_a.Up.Over)]) Tryz.ty60 rfl rfl (q36.cells (n := 2) rfl) rfl (sd rfl (yl_fieldAddr Tryz.fd62_1 rfl rfl ?_)))
  have q37 := Box.ex hB17 hE34
  refine sd rfl (yl_loadN (cs := [.string (bs (p_b.Up.Last)), .bool (p_b.Up.Over)]) Tryz.ty60 rfl rfl (q37.cells (n := 2) rfl) rfl (sd rfl (yl_call Tryz.en46 rfl (opvs_cons rfl (opvs_cons rfl opvs_nil)) (Cal.mono (c_l_eqFill p_a.Up p_b.Up) ?_))))
  rintro v39 w38 ⟨rfl, hE40⟩
  have hE40z := Ex.size hE40
  refine sd rfl (yl_not rfl rfl (SeqR.done (tn (bcase (l_eqFill p_a.Up p_b.Up) (fun hb41 => ?_) (fun hb41 => ?_)))))
  ·refine CW.cond_f rfl (not_t hb41) (CW.skip (tn (CW.seq (CW.seq (CW.region (sd rfl (yl_fieldAddr Tryz.fd62_2 rfl rfl (sd rfl (yl_loadN (cs := [.string (bs (p_a.Down.Last)), .bool (p_a.Down.Over)]) Tryz.ty60 rfl rfl ((Box.ex q36 hE40).cells (n := 2) rfl) rfl (sd rfl (yl_fieldAddr Tryz.fd62_2 rfl rfl ?_)))))))))))
   refine sd rfl (yl_loadN (cs := [.string (bs (p_b.Down.Last)), .bool (p_b.Down.Over)]) Tryz.ty60 rfl rfl ((Box.ex q37 hE40).cells (n := 2) rfl) rfl (sd rfl (yl_call Tryz.en46 rfl (opvs_cons rfl (opvs_cons rfl opvs_nil)) (Cal.mono (c_l_eqFill p_a.Down p_b.Down) ?_))))
   rintro v45 w44 ⟨rfl, hE46⟩
   have hE46z := Ex.size hE46
   refine sd rfl (yl_not rfl rfl (SeqR.done (tn (bcase (l_eqFill p_a.Down p_b.Down) (fun hb47 => ?_) (fun hb47 => ?_)))))
   ·refine CW.cond_f rfl (not_t hb47) (CW.skip (tn (CW.seq (CW.region (sd rfl (yl_assign rfl rfl (SeqR.done (tn (CW.ret ?_)))))))))
    refine rr rfl (.cons rfl .nil) ?_
    have hM48 : (l_eqWork p_a p_b) = (true) := by simp only [l_eqWork, hb35, hb41, hb47, cond_true, cond_false, loopE_done, loopE_ret]
    rw [hM48]
    exact ⟨rfl, (Ex.trans (Ex.trans (Ex.trans (Ex.trans (Ex.trans (Ex.refl w) hE12) hE18) hE34) hE40) hE46)⟩
   ·refine CW.cond_t rfl (not_f hb47) (CW.seq (CW.region (sd rfl (yl_assign rfl rfl (SeqR.done (tn (CW.ret (tr (rr rfl (.cons rfl .nil) ?_)))))))))
    have hM54 : (l_eqWork p_a p_b) = (false) := by simp only [l_eqWork, hb35, hb41, hb47, cond_true, cond_false, loopE_done, loopE_ret]
    rw [hM54]
    exact ⟨rfl, (Ex.trans (Ex.trans (Ex.trans (Ex.trans (Ex.trans (Ex.refl w) hE12) hE18) hE34) hE40) hE46)⟩
  ·refine CW.cond_t rfl (not_f hb41) (CW.seq (CW.region (sd rfl (yl_assign rfl rfl (SeqR.done (tn (CW.ret (tr (rr rfl (.cons rfl .nil) ?_)))))))))
   have hM60 : (l_eqWork p_a p_b) = (false) := by simp only [l_eqWork, hb35, hb41, cond_true, cond_false, loopE_done, loopE_ret]
   rw [hM60]
   exact ⟨rfl, (Ex.trans (Ex.trans (Ex.trans (Ex.trans (Ex.refl w) hE12) hE18) hE34) hE40)⟩
 ·refine CW.cond_t rfl (not_f hb35) (CW.seq (CW.region (sd rfl (yl_assign rfl rfl (SeqR.done (tn (CW.ret (tr (rr rfl (.cons rfl .nil) ?_)))))))))
  have hM65 : (l_eqWork p_a p_b) = (false) := by simp only [l_eqWork, hb35, cond_true, cond_false, loopE_done, loopE_ret]
  rw [hM65]
  exact ⟨rfl, (Ex.trans (Ex.trans (Ex.trans (Ex.refl w) hE12) hE18) hE34)⟩
set_option maxRecDepth 100000 in
set_option maxHeartbeats 2000000 in
theorem c_l_eqRow {A1 : Option Addr} {c1 : Nat} {A2 : Option Addr} {c2 : Nat} {w : World} (p_a : DRow) (p_b : DRow) (h1 : RdS w (Iv 0 w.heap.size) (RF e_Str) 1 A1 p_a.Vals.length c1 p_a.Vals) (h2 : RdS w (Iv 0 w.heap.size) (RF e_Str) 1 A2 p_b.Vals.length c2 p_b.Vals) : Cal Tryz.prog 79 #[.agg #[.slice A1 p_a.Vals.length c1], .agg #[.slice A2 p_b.Vals.length c2]] w fun v w' => v = .bool ((l_eqRow p_a p_b)) ∧ Ex w w' := by
 refine Cal.of (vs := [.agg #[.slice A1 p_a.Vals.length c1], .agg #[.slice A2 p_b.Vals.length c2]]) Tryz.func79 rfl Tryz.ntmps79 rfl (CW.seq (CW.region (sd rfl (yl_box (cs := [.slice A1 p_a.Vals.length c1]) rfl rfl rfl ?_))))
 intro b3 w4 hs5 hz6 hB7 hE8
 refine sd rfl (yl_box (cs := [.slice A2 p_b.Vals.length c2]) rfl rfl rfl ?_)
 intro b9 w10 hs11 hz12 hB13 hE14
 refine sd rfl (yl_assign rfl rfl (SeqR.done (tn (CW.seq (CW.seq (CW.region (sd rfl (yl_fieldAddr Tryz.fd42_0 rfl rfl (sd rfl (yl_load1 Tryz.ty27 rfl rfl (((Box.ex hB7 hE14).cell 0).trans rfl) (sd rfl (yl_fieldAddr Tryz.fd42_0 rfl rfl ?_))))))))))))
 refine sd rfl (yl_load1 Tryz.ty27 rfl rfl ((hB13.cell 0).trans rfl) (sd rfl (yl_call Tryz.en110 rfl (opvs_cons rfl (opvs_cons rfl opvs_nil)) (Cal.mono (c_l_eqStringS p_a.Vals p_b.Vals (RdS.up (RdS.ex good_Str (RdS.ex good_Str h1 hE8) hE14) good_Str) (RdS.up (RdS.ex good_Str (RdS.ex good_Str h2 hE8) hE14) good_Str)) ?_))))
 rintro v21 w20 ⟨rfl, hE22⟩
 have hE22z := Ex.size hE22
 refine sd rfl (yl_not rfl rfl (SeqR.done (tn (bcase (l_eqStringS p_a.Vals p_b.Vals) (fun hb23 => ?_) (fun hb23 => ?_)))))
 ·refine CW.cond_f rfl (not_t hb23) (CW.skip (tn (CW.seq (CW.region (sd rfl (yl_assign rfl rfl (SeqR.done (tn (CW.ret ?_)))))))))
  refine rr rfl (.cons rfl .nil) ?_
  have hM24 : (l_eqRow p_a p_b) = (true) := by simp only [l_eqRow, hb23, cond_true, cond_false, loopE_done, loopE_ret]
  rw [hM24]
  exact ⟨rfl, (Ex.trans (Ex.trans (Ex.trans (Ex.refl w) hE8) hE14) hE22)⟩
 ·refine CW.cond_t rfl (not_f hb23) (CW.seq (CW.region (sd rfl (yl_assign rfl rfl (SeqR.done (tn (CW.ret (tr (rr rfl (.cons rfl .nil) ?_)))))))))
  have hM28 : (l_eqRow p_a p_b) = (false) := by simp only [l_eqRow, hb23, cond_true, cond_false, loopE_done, loopE_ret]
  rw [hM28]
  exact ⟨rfl, (Ex.trans (Ex.trans (Ex.trans (Ex.refl w) hE8) hE14) hE22)⟩
set_option maxRecDepth 100000 in
set_option maxHeartbeats 2000000 in
theorem c_l_eqRowAct {A1 : Option Addr} {c1 : Nat} {A2 : Option Addr} {c2 : Nat} {A3 : Option Addr} {c3 : Nat} {A4 : Option Addr} {c4 : Nat} {w : World} (p_a : DRowAct) (p_b : DRowAct) (h1 : RdS w (Iv 0 w.heap.size) (RF e_Str) 1 A1 p_a.Old.Vals.length c1 p_a.Old.Vals) (h2 : RdS w (Iv 0 w.heap.size) (RF e_Str) 1 A2 p_a.New.Vals.length c2 p_a.New.Vals) (h3 : RdS w (Iv 0 w.heap.size) (RF e_Str) 1 A3 p_b.Old.Vals.length c3 p_b.Old.Vals) (h4 : RdS w (Iv 0 w.heap.size) (RF e_Str) 1 A4 p_b.New.Vals.length c4 p_b.New.Vals) : Cal Tryz.prog 39 #[.agg #[.int .i64 (p_a.Kind), .slice A1 p_a.Old.Vals.length c1, .slice A2 p_a.New.Vals.length c2], .agg #[.int .i64 (p_b.Kind), .slice A3 p_b.Old.Vals.length c3, .slice A4 p_b.New.Vals.length c4]] w fun v w' => v = .bool ((l_eqRowAct p_a p_b)) ∧ Ex w w' := by
 refine Cal.of (vs := [.agg #[.int .i64 (p_a.Kind), .slice A1 p_a.Old.Vals.length c1, .slice A2 p_a.New.Vals.length c2], .agg #[.int .i64 (p_b.Kind), .slice A3 p_b.Old.Vals.length c3, .slice A4 p_b.New.Vals.length c4]]) Tryz.func39 rfl Tryz.ntmps39 rfl (CW.seq (CW.region (sd rfl (yl_box (cs := [.int .i64 (p_a.Kind), .slice A1 p_a.Old.Vals.length c1, .slice A2 p_a.New.Vals.length c2]) rfl rfl rfl ?_))))
 intro b5 w6 hs7 hz8 hB9 hE10
 refine sd rfl (yl_box (cs := [.int .i64 (p_b.Kind), .slice A3 p_b.Old.Vals.length c3, .slice A4 p_b.New.Vals.length c4]) rfl rfl rfl ?_)
 intro b11 w12 hs13 hz14 hB15 hE16
 refine sd rfl (yl_assign rfl rfl (SeqR.done (tn (CW.seq (CW.seq (CW.region (sd rfl (yl_fieldAddr Tryz.fd44_0 rfl rfl ?_))))))))
 have q17 := Box.ex hB9 hE16
 refine sd rfl (yl_load1 Tryz.ty3 rfl rfl ((q17.cell 0).trans rfl) (sd rfl (yl_fieldAddr Tryz.fd44_0 rfl rfl (sd rfl (yl_load1 Tryz.ty3 rfl rfl ((hB15.cell 0).trans rfl) (sd rfl (yl_neq rfl rfl rfl (SeqR.done (tn (bcase (decide (p_a.Kind = p_b.Kind)) (fun hb18 => ?_) (fun hb18 => ?_)))))))))))
 ·have hb18p := dec_t hb18
  refine CW.cond_f rfl (not_t hb18) (CW.skip (tn (CW.seq (CW.seq (CW.region (sd rfl (yl_fieldAddr Tryz.fd44_1 rfl rfl (sd rfl (yl_loadN (cs := [.slice A1 p_a.Old.Vals.length c1]) Tryz.ty42 rfl rfl (q17.cells (n := 1) rfl) rfl (sd rfl (yl_fieldAddr Tryz.fd44_1 rfl rfl ?_)))))))))))
  refine sd rfl (yl_loadN (cs := [.slice A3 p_b.Old.Vals.length c3]) Tryz.ty42 rfl rfl (hB15.cells (n := 1) rfl) rfl (sd rfl (yl_call Tryz.en79 rfl (opvs_cons rfl (opvs_cons rfl opvs_nil)) (Cal.mono (c_l_eqRow p_a.Old p_b.Old (RdS.up (RdS.ex good_Str (RdS.ex good_Str h1 hE10) hE16) good_Str) (RdS.up (RdS.ex good_Str (RdS.ex good_Str h3 hE10) hE16) good_Str)) ?_))))
  rintro v24 w23 ⟨rfl, hE25⟩
  have hE25z := Ex.size hE25
  refine sd rfl (yl_not rfl rfl (SeqR.done (tn (bcase (l_eqRow p_a.Old p_b.Old) (fun hb26 => ?_) (fun hb26 => ?_)))))
  ·refine CW.cond_f rfl (not_t hb26) (CW.skip (tn (CW.seq (CW.seq (CW.region (sd rfl (yl_fieldAddr Tryz.fd44_2 rfl rfl (sd rfl (yl_loadN (cs := [.slice A2 p_a.New.Vals.length c2]) Tryz.ty42 rfl rfl ((Box.ex q17 hE25).cells (n := 1) rfl) rfl (sd rfl (yl_fieldAddr Tryz.fd44_2 rfl rfl ?_)))))))))))
   refine sd rfl (yl_loadN (cs := [.slice A4 p_b.New.Vals.length c4]) Tryz.ty42 rfl rfl ((Box.ex hB15 hE25).cells (n := 1) rfl) rfl (sd rfl (yl_call Tryz.en79 rfl (opvs_cons rfl (opvs_cons rfl opvs_nil)) (Cal.mono (c_l_eqRow p_a.New p_b.New (RdS.up (RdS.ex good_Str (RdS.ex good_Str (RdS.ex good_Str h2 hE10) hE16) hE25) good_Str) (RdS.up (RdS.ex good_Str (RdS.ex good_Str (RdS.ex good_Str h4 hE10) hE16) hE25) good_Str)) ?_))))
   rintro v36 w35 ⟨rfl, hE37⟩
   have hE37z := Ex.size hE37
   refine sd rfl (yl_not rfl rfl (SeqR.done (tn (bcase (l_eqRow p_a.New p_b.New) (fun hb38 => ?_) (fun hb38 => ?_)))))
   ·refine CW.cond_f rfl (not_t hb38) (CW.skip (tn (CW.seq (CW.region (sd rfl (yl_assign rfl rfl (SeqR.done (tn (CW.ret ?_)))))))))
    refine rr rfl (.cons rfl .nil) ?_
    have hM39 : (l_eqRowAct p_a p_b) = (true) := by simp only [l_eqRowAct, hb18, hb26, hb38, cond_true, cond_false, loopE_done, loopE_ret]
    rw [hM39]
    exact ⟨rfl, (Ex.trans (Ex.trans (Ex.trans (Ex.trans (Ex.refl w) hE10) hE16) hE25) hE37)⟩
   ·refine CW.cond_t rfl (not_f hb38) (CW.seq (CW.region (sd rfl (yl_assign rfl rfl (SeqR.done (tn (CW.ret (tr (rr rfl (.cons rfl .nil) ?_)))))))))
    have hM44 : (l_eqRowAct p_a p_b) = (false) := by simp only [l_eqRowAct, hb18, hb26, hb38, cond_true, cond_false, loopE_done, loopE_ret]
    rw [hM44]
    exact ⟨rfl, (Ex.trans (Ex.trans (Ex.trans (Ex.trans (Ex.refl w) hE10) hE16) hE25) hE37)⟩
  ·refine CW.cond_t rfl (not_f hb26) (CW.seq (CW.region (sd rfl (yl_assign rfl rfl (SeqR.done (tn (CW.ret (tr (rr rfl (.cons rfl .nil) ?_)))))))))
   have hM49 : (l_eqRowAct p_a p_b) = (false) := by simp only [l_eqRowAct, hb18, hb26, cond_true, cond_false, loopE_done, loopE_ret]
   rw [hM49]
   exact ⟨rfl, (Ex.trans (Ex.trans (Ex.trans (Ex.refl w) hE10) hE16) hE25)⟩
 ·have hb18p := dec_f hb18
  refine CW.cond_t rfl (not_f hb18) (CW.seq (CW.region (sd rfl (yl_assign rfl rfl (SeqR.done (tn (CW.ret (tr (rr rfl (.cons rfl .nil) ?_)))))))))
  have hM53 : (l_eqRowAct p_a p_b) = (false) := by simp only [l_eqRowAct, hb18, cond_true, cond_false, loopE_done, loopE_ret]
  rw [hM53]
  exact ⟨rfl, (Ex.trans (Ex.trans (Ex.refl w) hE10) hE16)⟩
set_option maxRecDepth 100000 in
set_option maxHeartbeats 2000000 in
theorem c_l_eqShiftAct {A1 : Option Addr} {c1 : Nat} {A2 : Option Addr} {c2 : Nat} {A3 : Option Addr} {c3 : Nat} {A4 : Option Addr} {c4 : Nat} {w : World} (p_a : DShiftAct) (p_b : DShiftAct) (h1 : RdS w (Iv 0 w.heap.size) (RF e_Str) 1 A1 p_a.Act.Old.Vals.length c1 p_a.Act.Old.Vals) (h2 : RdS w (Iv 0 w.heap.size) (RF e_Str) 1 A2 p_a.Act.New.Vals.length c2 p_a.Act.New.Vals) (h3 : RdS w (Iv 0 w.heap.size) (RF e_Str) 1 A3 p_b.Act.Old.Vals.length c3 p_b.Act.Old.Vals) (h4 : RdS w (Iv 0 w.heap.size) (RF e_Str) 1 A4 p_b.Act.New.Vals.length c4 p_b.Act.New.Vals) : Cal Tryz.prog 13 #[.agg #[.int .i64 (p_a.Server), .int .i64 (p_a.Step), .int .i64 (p_a.Act.Kind), .slice A1 p_a.Act.Old.Vals.length c1, .slice A2 p_a.Act.New.Vals.length c2], .agg #[.int .i64 (p_b.Server), .int .i64 (p_b.Step), .int .i64 (p_b.Act.Kind), .slice A3 p_b.Act.Old.Vals.length c3, .slice A4 p_b.Act.New.Vals.length c4]] w fun v w' => v = .bool ((l_eqShiftAct p_a p_b)) ∧ Ex w w' := by
 refine Cal.of (vs := [.agg #[.int .i64 (p_a.Server), .int .i64 (p_a.Step), .int .i64 (p_a.Act.Kind), .slice A1 p_a.Act.Old.Vals.length c1, .slice A2 p_a.Act.New.Vals.length c2], .agg #[.int .i64 (p_b.Server), .int .i64 (p_b.Step), .int .i64 (p_b.Act.Kind), .slice A3 p_b.Act.Old.Vals.length c3, .slice A4 p_b.Act.New.Vals.length c4]]) Tryz.func13 rfl Tryz.ntmps13 rfl (CW.seq (CW.region (sd rfl (yl_box (cs := [.int .i64 (p_a.Server), .int .i64 (p_a.Step), .int .i64 (p_a.Act.Kind), .slice A1 p_a.Act.Old.Vals.length c1, .slice A2 p_a.Act.New.Vals.length c2]) rfl rfl rfl ?_))))
 intro b5 w6 hs7 hz8 hB9 hE10
 refine sd rfl (yl_box (cs := [.int .i64 (p_b.Server), .int .i64 (p_b.Step), .int .i64 (p_b.Act.Kind), .slice A3 p_b.Act.Old.Vals.length c3, .slice A4 p_b.Act.New.Vals.length c4]) rfl rfl rfl ?_)
 intro b11 w12 hs13 hz14 hB15 hE16
 refine sd rfl (yl_assign rfl rfl (SeqR.done (tn (CW.seq (CW.seq (CW.region (sd rfl (yl_fieldAddr Tryz.fd46_0 rfl rfl ?_))))))))
 have q17 := Box.ex hB9 hE16
 refine sd rfl (yl_load1 Tryz.ty3 rfl rfl ((q17.cell 0).trans rfl) (sd rfl (yl_fieldAddr Tryz.fd46_0 rfl rfl (sd rfl (yl_load1 Tryz.ty3 rfl rfl ((hB15.cell 0).trans rfl) (sd rfl (yl_neq rfl rfl rfl (SeqR.done (tn (bcase (decide (p_a.Server = p_b.Server)) (fun hb18 => ?_) (fun hb18 => ?_)))))))))))
 ·have hb18p := dec_t hb18
  refine CW.cond_f rfl (not_t hb18) (CW.skip (tn (CW.seq (CW.seq (CW.region (sd rfl (yl_fieldAddr Tryz.fd46_1 rfl rfl (sd rfl (yl_load1 Tryz.ty3 rfl rfl ((q17.cell 1).trans rfl) (sd rfl (yl_fieldAddr Tryz.fd46_1 rfl rfl ?_)))))))))))
  refine sd rfl (yl_load1 Tryz.ty3 rfl rfl ((hB15.cell 1).trans rfl) (sd rfl (yl_neq rfl rfl rfl (SeqR.done (tn (bcase (decide (p_a.Step = p_b.Step)) (fun hb19 => ?_) (fun hb19 => ?_)))))))
  ·have hb19p := dec_t hb19
   refine CW.cond_f rfl (not_t hb19) (CW.skip (tn (CW.seq (CW.seq (CW.region (sd rfl (yl_fieldAddr Tryz.fd46_2 rfl rfl (sd rfl (yl_loadN (cs := [.int .i64 (p_a.Act.Kind), .slice A1 p_a.Act.Old.Vals.length c1, .slice A2 p_a.Act.New.Vals.length c2]) Tryz.ty44 rfl rfl (q17.cells (n := 3) rfl) rfl (sd rfl (yl_fieldAddr Tryz.fd46_2 rfl rfl ?_)))))))))))
   refine sd rfl (yl_loadN (cs := [.int .i64 (p_b.Act.Kind), .slice A3 p_b.Act.Old.Vals.length c3, .slice A4 p_b.Act.New.Vals.length c4]) Tryz.ty44 rfl rfl (hB15.cells (n := 3) rfl) rfl (sd rfl (yl_call Tryz.en39 rfl (opvs_cons rfl (opvs_cons rfl opvs_nil)) (Cal.mono (c_l_eqRowAct p_a.Act p_b.Act (RdS.up (RdS.ex good_Str (RdS.ex good_Str h1 hE10) hE16) good_Str) (RdS.up (RdS.ex good_Str (RdS.ex good_Str h2 hE10) hE16) good_Str) (RdS.up (RdS.ex good_Str (RdS.ex good_Str h3 hE10) hE16) good_Str) (RdS.up (RdS.ex good_Str (RdS.ex good_Str h4 hE10) hE16) good_Str)) ?_))))
   rintro v29 w28 ⟨rfl, hE30⟩
   have hE30z := Ex.size hE30
   refine sd rfl (yl_not rfl rfl (SeqR.done (tn (bcase (l_eqRowAct p_a.Act p_b.Act) (fun hb31 => ?_) (fun hb31 => ?_)))))
   ·refine CW.cond_f rfl (not_t hb31) (CW.skip (tn (CW.seq (CW.region (sd rfl (yl_assign rfl rfl (SeqR.done (tn (CW.ret ?_)))))))))
    refine rr rfl (.cons rfl .nil) ?_
    have hM32 : (l_eqShiftAct p_a p_b) = (true) := by simp only [l_eqShiftAct, hb18, hb19, hb31, cond_true, cond_false, loopE_done, loopE_ret]
    rw [hM32]
    exact ⟨rfl, (Ex.trans (Ex.trans (Ex.trans (Ex.refl w) hE10) hE16) hE30)⟩
   ·refine CW.cond_t rfl (not_f hb31) (CW.seq (CW.region (sd rfl (yl_assign rfl rfl (SeqR.done (tn (CW.ret (tr (rr rfl (.cons rfl .nil) ?_)))))))))
    have hM36 : (l_eqShiftAct p_a p_b) = (false) := by simp only [l_eqShiftAct, hb18, hb19, hb31, cond_true, cond_false, loopE_done, loopE_ret]
    rw [hM36]
    exact ⟨rfl, (Ex.trans (Ex.trans (Ex.trans (Ex.refl w) hE10) hE16) hE30)⟩
  ·have hb19p := dec_f hb19
   refine CW.cond_t rfl (not_f hb19) (CW.seq (CW.region (sd rfl (yl_assign rfl rfl (SeqR.done (tn (CW.ret (tr (rr rfl (.cons rfl .nil) ?_)))))))))
   have hM40 : (l_eqShiftAct p_a p_b) = (false) := by simp only [l_eqShiftAct, hb18, hb19, cond_true, cond_false, loopE_done, loopE_ret]
   rw [hM40]
   exact ⟨rfl, (Ex.trans (Ex.trans (Ex.refl w) hE10) hE16)⟩
 ·have hb18p := dec_f hb18
  refine CW.cond_t rfl (not_f hb18) (CW.seq (CW.region (sd rfl (yl_assign rfl rfl (SeqR.done (tn (CW.ret (tr (rr rfl (.cons rfl .nil) ?_)))))))))
  have hM43 : (l_eqShiftAct p_a p_b) = (false) := by simp only [l_eqShiftAct, hb18, cond_true, cond_false, loopE_done, loopE_ret]
  rw [hM43]
  exact ⟨rfl, (Ex.trans (Ex.trans (Ex.refl w) hE10) hE16)⟩
set_option maxRecDepth 100000 in
set_option maxHeartbeats 2000000 in
theorem c_l_eqWorkAct {A1 : Option Addr} {c1 : Nat} {A2 : Option Addr} {c2 : Nat} {A3 : Option Addr} {c3 : Nat} {A4 : Option Addr} {c4 : Nat} {w : World} (p_a : DWorkAct) (p_b : DWorkAct) (h1 : RdS w (Iv 0 w.heap.size) (RF e_Str) 1 A1 p_a.Act.Act.Old.Vals.length c1 p_a.Act.Act.Old.Vals) (h2 : RdS w (Iv 0 w.heap.size) (RF e_Str) 1 A2 p_a.Act.Act.New.Vals.length c2 p_a.Act.Act.New.Vals) (h3 : RdS w (Iv 0 w.heap.size) (RF e_Str) 1 A3 p_b.Act.Act.Old.Vals.length c3 p_b.Act.Act.Old.Vals) (h4 : RdS w (Iv 0 w.heap.size) (RF e_Str) 1 A4 p_b.Act.Act.New.Vals.length c4 p_b.Act.Act.New.Vals) : Cal Tryz.prog 21 #[.agg #[.int .i64 (p_a.Kind), .int .i64 (p_a.Many), .int .i64 (p_a.Act.Server), .int .i64 (p_a.Act.Step), .int .i64 (p_a.Act.Act.Kind), .slice A1 p_a.Act.Act.Old.Vals.length c1, .slice A2 p_a.Act.Act.New.Vals.length c2], .agg #[.int .i64 (p_b.Kind), .int .i64 (p_b.Many), .int .i64 (p_b.Act.Server), .int .i64 (p_b.Act.Step), .int .i64 (p_b.Act.Act.Kind), .slice A3 p_b.Act.Act.Old.Vals.length c3, .slice A4 p_b.Act.Act.New.Vals.length c4]] w fun v w' => v = .bool ((l_eqWorkAct p_a p_b)) ∧ Ex w w' := by
 refine Cal.of (vs := [.agg #[.int .i64 (p_a.Kind), .int .i64 (p_a.Many), .int .i64 (p_a.Act.Server), .int .i64 (p_a.Act.Step), .int .i64 (p_a.Act.Act.Kind), .slice A1 p_a.Act.Act.Old.Vals.length c1, .slice A2 p_a.Act.Act.New.Vals.length c2], .agg #[.int .i64 (p_b.Kind), .int .i64 (p_b.Many), .int .i64 (p_b.Act.Server), .int .i64 (p_b.Act.Step), .int .i64 (p_b.Act.Act.Kind), .slice A3 p_b.Act.Act.Old.Vals.length c3, .slice A4 p_b.Act.Act.New.Vals.length c4]]) Tryz.func21 rfl Tryz.ntmps21 rfl (CW.seq (CW.region (sd rfl (yl_box (cs := [.int .i64 (p_a.Kind), .int .i64 (p_a.Many), .int .i64 (p_a.Act.Server), .int .i64 (p_a.Act.Step), .int .i64 (p_a.Act.Act.Kind), .slice A1 p_a.Act.Act.Old.Vals.length c1, .slice A2 p_a.Act.Act.New.Vals.length c2]) rfl rfl rfl ?_))))
 intro b5 w6 hs7 hz8 hB9 hE10
 refine sd rfl (yl_box (cs := [.int .i64 (p_b.Kind), .int .i64 (p_b.Many), .int .i64 (p_b.Act.Server), .int .i64 (p_b.Act.Step), .int .i64 (p_b.Act.Act.Kind), .slice A3 p_b.Act.Act.Old.Vals.length c3, .slice A4 p_b.Act.Act.New.Vals.length c4]) rfl rfl rfl ?_)
 intro b11 w12 hs13 hz14 hB15 hE16
 refine sd rfl (yl_assign rfl rfl (SeqR.done (tn (CW.seq (CW.seq (CW.region (sd rfl (yl_fieldAddr Tryz.fd65_0 rfl rfl ?_))))))))
 have q17 := Box.ex hB9 hE16
 refine sd rfl (yl_load1 Tryz.ty3 rfl rfl ((q17.cell 0).trans rfl) (sd rfl (yl_fieldAddr Tryz.fd65_0 rfl rfl (sd rfl (yl_load1 Tryz.ty3 rfl rfl ((hB15.cell 0).trans rfl) (sd rfl (yl_neq rfl rfl rfl (SeqR.done (tn (bcase (decide (p_a.Kind = p_b.Kind)) (fun hb18 => ?_) (fun hb18 => ?_)))))))))))
 ·have hb18p := dec_t hb18
  refine CW.cond_f rfl (not_t hb18) (CW.skip (tn (CW.seq (CW.seq (CW.region (sd rfl (yl_fieldAddr Tryz.fd65_1 rfl rfl (sd rfl (yl_load1 Tryz.ty3 rfl rfl ((q17.cell 1).trans rfl) (sd rfl (yl_fieldAddr Tryz.fd65_1 rfl rfl ?_)))))))))))
  refine sd rfl (yl_load1 Tryz.ty3 rfl rfl ((hB15.cell 1).trans rfl) (sd rfl (yl_neq rfl rfl rfl (SeqR.done (tn (bcase (decide (p_a.Many = p_b.Many)) (fun hb19 => ?_) (fun hb19 => ?_)))))))
  ·have hb19p := dec_t hb19
   refine CW.cond_f rfl (not_t hb19) (CW.skip (tn (CW.seq (CW.seq (CW.region (sd rfl (yl_fieldAddr Tryz.fd65_2 rfl rfl (sd rfl (yl_loadN (cs := [.int .i64 (p_a.Act.Server), .int .i64 (p_a.Act.Step), .int .i64 (p_a.Act.Act.Kind), .slice A1 p_a.Act.Act.Old.Vals.length c1, .slice A2 p_a.Act.Act.New.Vals.length c2]) Tryz.ty46 rfl rfl (q17.cells (n := 5) rfl) rfl (sd rfl (yl_fieldAddr Tryz.fd65_2 rfl rfl ?_)))))))))))
   refine sd rfl (yl_loadN (cs := [.int .i64 (p_b.Act.Server), .int .i64 (p_b.Act.Step), .int .i64 (p_b.Act.Act.Kind), .slice A3 p_b.Act.Act.Old.Vals.length c3, .slice A4 p_b.Act.Act.New.Vals.length c4]) Tryz.ty46 rfl rfl (hB15.cells (n := 5) rfl) rfl (sd rfl (yl_call Tryz.en13 rfl (opvs_cons rfl (opvs_cons rfl opvs_nil)) (Cal.mono (c_l_eqShiftAct p_a.Act p_b.Act (RdS.up (RdS.ex good_Str (RdS.ex good_Str h1 hE10) hE16) good_Str) (RdS.up (RdS.ex good_Str (RdS.ex good_Str h2 hE10) hE16) good_Str) (RdS.up (RdS.ex good_Str (RdS.ex good_Str h3 hE10) hE16) good_Str) (RdS.up (RdS.ex good_Str (RdS.ex good_Str h4 hE10) hE16) good_Str)) ?_))))
   rintro v29 w28 ⟨rfl, hE30⟩
   have hE30z := Ex.size hE30
   refine sd rfl (yl_not rfl rfl (SeqR.done (tn (bcase (l_eqShiftAct p_a.Act p_b.Act) (fun hb31 => ?_) (fun hb31 => ?_)))))
   ·refine CW.cond_f rfl (not_t hb31) (CW.skip (tn (CW.seq (CW.region (sd rfl (yl_assign rfl rfl (SeqR.done (tn (CW.ret ?_)))))))))
    refine rr rfl (.cons rfl .nil) ?_
    have hM32 : (l_eqWorkAct p_a p_b) = (true) := by simp only [l_eqWorkAct, hb18, hb19, hb31, cond_true, cond_false, loopE_done, loopE_ret]
    rw [hM32]
    exact ⟨rfl, (Ex.trans (Ex.trans (Ex.trans (Ex.refl w) hE10) hE16) hE30)⟩
   ·refine CW.cond_t rfl (not_f hb31) (CW.seq (CW.region (sd rfl (yl_assign rfl rfl (SeqR.done (tn (CW.ret (tr (rr rfl (.cons rfl .nil) ?_)))))))))
    have hM36 : (l_eqWorkAct p_a p_b) = (false) := by simp only [l_eqWorkAct, hb18, hb19, hb31, cond_true, cond_false, loopE_done, loopE_ret]
    rw [hM36]
    exact ⟨rfl, (Ex.trans (Ex.trans (Ex.trans (Ex.refl w) hE10) hE16) hE30)⟩
  ·have hb19p := dec_f hb19
   refine CW.cond_t rfl (not_f hb19) (CW.seq (CW.region (sd rfl (yl_assign rfl rfl (SeqR.done (tn (CW.ret (tr (rr rfl (.cons rfl .nil) ?_)))))))))
   have hM40 : (l_eqWorkAct p_a p_b) = (false) := by simp only [l_eqWorkAct, hb18, hb19, cond_true, cond_false, loopE_done, loopE_ret]
   rw [hM40]
   exact ⟨rfl, (Ex.trans (Ex.trans (Ex.refl w) hE10) hE16)⟩
 ·have hb18p := dec_f hb18
  refine CW.cond_t rfl (not_f hb18) (CW.seq (CW.region (sd rfl (yl_assign rfl rfl (SeqR.done (tn (CW.ret (tr (rr rfl (.cons rfl .nil) ?_)))))))))
  have hM43 : (l_eqWorkAct p_a p_b) = (false) := by simp only [l_eqWorkAct, hb18, cond_true, cond_false, loopE_done, loopE_ret]
  rw [hM43]
  exact ⟨rfl, (Ex.trans (Ex.trans (Ex.refl w) hE10) hE16)⟩
end Go.Proofs.YtfmepgbpbbneaaaGreat
