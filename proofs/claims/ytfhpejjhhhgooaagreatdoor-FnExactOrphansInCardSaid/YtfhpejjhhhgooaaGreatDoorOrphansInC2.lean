/- Orphans In: what each call returns, part 2. -/
import Derived.Test.YtfhpejjhhhgooaaGreatDoorOrphansInC1
set_option maxRecDepth 100000
set_option maxHeartbeats 2000000
open Go.Proofs.Tryz Go.Proofs.YtfhpejjhhhgooaaGreatDoor.Tryz
set_option linter.unusedVariables false
set_option linter.unusedSimpArgs false
namespace Go.Proofs.YtfhpejjhhhgooaaGreatDoor
open Go.RowKit Go.X
theorem c_s_l25Asked {A1 : Option Addr} {c1 : Nat} {A2 : Option Addr} {c2 : Nat} {A5 : Option Addr} {c5 : Nat} {w : World} (p_t : DTable) (p_name : Str) (p_store : List DWrite) (h1 : RdS w (Iv 0 w.heap.size) (RF e_Str) 1 A1 p_t.Cols.length c1 p_t.Cols) (h2 : RdS w (Iv 0 w.heap.size) (RF e_Idx) 3 A2 p_t.Idxs.length c2 p_t.Idxs) (h5 : RdS w (Iv 0 w.heap.size) (RF e_Write) 3 A5 p_store.length c5 p_store) (o3 : ok_Table p_t) (o4 : okS p_name) (o6 : (okL ok_Write) p_store) : Cal Tryz.prog 23 #[.agg #[.string (bs (p_t.Name)), .slice A1 p_t.Cols.length c1, .slice A2 p_t.Idxs.length c2], .string (bs (p_name)), .slice A5 p_store.length c5] w fun v w' => v = .bool ((s_l25Asked p_t p_name p_store)) ∧ Ex w w' := by
 refine Cal.of func23 rfl ntmps23 rfl (CW.seq (CW.region (sd rfl (yl_box rfl rfl rfl ?_))))
 intro b12 w13 hs14 hz15 hB16 hE17
 refine sd rfl (yl_assign rfl rfl (dn (CW.seq (CW.region (sd rfl (yl_loadN ty33 rfl rfl (hB16.cells (n := 3) rfl) rfl ?_))))))
 have q18 := RdS.ex good_Str h1 hE17
 have q19 := RdS.ex good_Idx h2 hE17
 refine sd rfl (yl_call en38 rfl (oc rfl oz) (Cal.mono (c_s_GoodTable p_t (RdS.up q18 good_Str) (RdS.up q19 good_Idx) o3) ?_))
 rintro v21 w20 ⟨rfl, hE22⟩
 refine sd rfl (yl_move rfl rfl (bcase (s_GoodTable p_t) (fun hb23 => ?_) (fun hb23 => ?_)))
 ·have hb23p := f_s_GoodTable hb23
  refine sy rfl rfl hb23 (yl_loadN ty33 rfl rfl ((Box.ex hB16 hE22).cells (n := 3) rfl) rfl (sy rfl rfl hb23 (yl_move rfl rfl (sy rfl rfl hb23 (yl_call en39 rfl (oc rfl (oc rfl oz)) (Cal.mono (c_s_l24Idx p_t p_name (RdS.up (RdS.ex good_Str q18 hE22) good_Str) (RdS.up (RdS.ex good_Idx q19 hE22) good_Idx) o3 o4) ?_))))))
  rintro v28 w27 ⟨rfl, hE29⟩
  have hrf30 := rf_s_l24Idx p_t p_name
  refine sy rfl rfl hb23 (yl_geq rfl rfl rfl (sd rfl (yl_pick_t rfl rfl hb23 rfl (sd rfl (yl_move rfl rfl (bcase (decide (0 ≤ (s_l24Idx p_t p_name))) (fun hb31 => ?_) (fun hb31 => ?_)))))))
  ·have hb31p := dec_t hb31
   refine sy rfl rfl hb31 (yl_move rfl rfl (sy rfl rfl hb31 (yl_call en40 rfl (oc rfl oz) (Cal.mono (c_s_l5Rows p_store (RdS.up (RdS.ex good_Write (RdS.ex good_Write (RdS.ex good_Write h5 hE17) hE22) hE29) good_Write) o6) ?_))))
   rintro v36 w35 ⟨rfl, hE37⟩
   refine sd rfl (yl_pick_t rfl rfl hb31 rfl (sd rfl (yl_assign rfl rfl (dn (CW.ret (rr rfl (.cons rfl .nil) ?_))))))
   have hM38 : (s_l25Asked p_t p_name p_store) = ((s_l5Rows p_store)) := by simp only [s_l25Asked, hb23, hb31, cL]
   rw [hM38]
   exact ⟨rfl, (Ex.trans (Ex.trans (Ex.trans (Ex.trans (Ex.refl w) hE17) hE22) hE29) hE37)⟩
  ·have hb31p := dec_f hb31
   refine sz rfl rfl hb31 (sz rfl rfl hb31 (sd rfl (yl_pick_f rfl rfl hb31 rfl (sd rfl (yl_assign rfl rfl (dn (CW.ret (rr rfl (.cons rfl .nil) ?_))))))))
   have hM43 : (s_l25Asked p_t p_name p_store) = (false) := by simp only [s_l25Asked, hb23, hb31, cL]
   rw [hM43]
   exact ⟨rfl, (Ex.trans (Ex.trans (Ex.trans (Ex.refl w) hE17) hE22) hE29)⟩
 ·refine sz rfl rfl hb23 (sz rfl rfl hb23 (sz rfl rfl hb23 (sz rfl rfl hb23 (sd rfl (yl_pick_f rfl rfl hb23 rfl (sd rfl (yl_move rfl rfl (sz rfl rfl rfl (sz rfl rfl rfl (sd rfl (yl_pick_f rfl rfl rfl rfl ?_)))))))))))
  refine sd rfl (yl_assign rfl rfl (dn (CW.ret (rr rfl (.cons rfl .nil) ?_))))
  have hM47 : (s_l25Asked p_t p_name p_store) = (false) := by simp only [s_l25Asked, hb23, cL]
  rw [hM47]
  exact ⟨rfl, (Ex.trans (Ex.trans (Ex.refl w) hE17) hE22)⟩
theorem c_s_l25Less {A1 : Option Addr} {c1 : Nat} {A3 : Option Addr} {c3 : Nat} {w : World} (p_l : List Str) (p_others : List Str) (h1 : RdS w (Iv 0 w.heap.size) (RF e_Str) 1 A1 p_l.length c1 p_l) (h3 : RdS w (Iv 0 w.heap.size) (RF e_Str) 1 A3 p_others.length c3 p_others) (o2 : (okL okS) p_l) (o4 : (okL okS) p_others) : Cal Tryz.prog 24 #[.slice A1 p_l.length c1, .slice A3 p_others.length c3] w fun v w' => ∃ A_1 c_1 lo_1 hi_1, v = .slice A_1 ((s_l25Less p_l p_others).length) c_1 ∧ OwnL w' lo_1 hi_1 9 1 (RF e_Str) A_1 ((s_l25Less p_l p_others).length) c_1 (s_l25Less p_l p_others) ∧ (okL okS) (s_l25Less p_l p_others) ∧ (w.heap.size ≤ lo_1 ∧ lo_1 ≤ hi_1 ∧ hi_1 ≤ w'.heap.size) ∧ Ex w w' := by
 have hol5 := o2.1
 have hol6 := o4.1
 refine Cal.of func24 rfl ntmps24 rfl (CW.seq (CW.region (sd rfl (yl_assign rfl rfl (dn (CW.seq (CW.region (sd rfl (yl_assign rfl rfl ?_)))))))))
 refine dn (CW.seq (CW.seq (CW.region (sd rfl (yl_move rfl rfl (sd rfl (yl_len un22 rfl rfl (sd rfl (yl_move rfl rfl (SeqR.done ?_))))))))))
 refine tn (CW.block (CW.loop (fun m32 L33 w34 => ∃ (k7 : Nat) (x28 : List Str) (A29 : Option Addr) (c30 : Nat) (u31 : Nat), m32 = p_l.length - k7 ∧ k7 ≤ p_l.length ∧ w.heap.size ≤ w34.heap.size ∧ lkp L33 1 = some (.slice A3 p_others.length c3) ∧ lkp L33 5 = some (.slice A29 x28.length c30) ∧ lkp L33 8 = some (.slice A1 p_l.length c1) ∧ lkp L33 9 = some (.int .i64 ((p_l.length : Int))) ∧ lkp L33 10 = some (.int .i64 ((k7 : Int))) ∧ RdS w34 (Iv 0 w.heap.size) (RF e_Str) 1 A3 p_others.length c3 p_others ∧ OwnL w34 w.heap.size u31 9 1 (RF e_Str) A29 x28.length c30 x28 ∧ RdS w34 (Iv 0 w.heap.size) (RF e_Str) 1 A1 p_l.length c1 p_l ∧ Ex w w34 ∧ (w.heap.size ≤ u31 ∧ u31 ≤ w34.heap.size) ∧ x28.length ≤ 0 + 1 * (k7 - 0) ∧ (∀ y ∈ x28, okS y) ∧ loopM (B_s_l25Less_0 p_l p_others) (p_l.length - k7) k7 (x28) = loopM (B_s_l25Less_0 p_l p_others) (p_l.length - 0) 0 (([] : List Str))) (p_l.length - 0) ?_ ?_))
 ·exact ⟨0, ([] : List Str), none, 0, w.heap.size, rfl, (by omega), Nat.le_refl _, rfl, rfl, rfl, rfl, rfl, h3, (OwnL.nil w w.heap.size w.heap.size 9 1 (RF e_Str)), h1, (Ex.refl w), (by omega), (by first | (simp; done) | (first | omega | (simp only [List.length_append, List.length_cons, List.length_nil, List.length_set, toS_length]; omega))), okE.nil, rfl⟩
 ·rintro m35 L36 w37 ⟨k7, x28, A29, c30, u31, rfl, hk38, hsz40, hl41, hl42, hl43, hl44, hl45, hf46, hf47, hf48, hf49, hu50, hln51, hok52, hI39⟩
  refine CW.sub (Sub.cons hl41 (Sub.cons hl42 (Sub.cons hl43 (Sub.cons hl44 (Sub.cons hl45 (Sub.nil _)))))) ?_
  have hf49z := Ex.size hf49
  have hbg53 := RdS.big hf48
  rcases Nat.lt_or_ge k7 p_l.length with hlt54 | hlt54
  ·refine CW.seq (CW.region (sd rfl (yl_lss rfl rfl rfl (dn (CW.seq (CW.cond_t rfl (lt_t hlt54) (CW.skip (tn ?_))))))))
   refine CW.seq (CW.block (CW.seq (CW.region ?_)))
   obtain ⟨eb55, eo55, _, eA55, _, ebl55, _, eR55, eC55⟩ := RdS.aD hf48 d_Str (i := k7)
   obtain rfl := eR55
   have eC55 : Cells w37 eb55 (eo55 + k7 * 1) [.string (bs ((p_l.getD k7 d_Str)))] := eC55
   refine sd rfl (yl_ixN un22 ty9 rfl rfl rfl eA55 (sd rfl (yl_load1 ty9 rfl rfl (eC55 0 _ rfl) (sd rfl (yl_assign rfl rfl (dn (CW.seq (CW.region (sd rfl (yl_move rfl rfl (sd rfl (yl_move rfl rfl ?_))))))))))))
   refine sd rfl (yl_call en41 rfl (oc rfl (oc rfl oz)) (Cal.mono (c_s_l24At p_others (p_l.getD k7 d_Str) (RdS.up hf46 good_Str) o4 (okL.getD o2 ok_d_Str _)) ?_))
   rintro v57 w56 ⟨rfl, hE58⟩
   have hE58z := Ex.size hE58
   refine sd rfl (yl_lss rfl rfl rfl (dn (bcase (decide ((s_l24At p_others (p_l.getD k7 d_Str)) < 0)) (fun hb59 => ?_) (fun hb59 => ?_))))
   ·have hb59p := dec_t hb59
    refine CW.cond_t rfl hb59 (CW.region (sd rfl (yl_move rfl rfl (sd rfl (yl_move rfl rfl (sd rfl (yl_buildSlice (cs := [.string (bs ((p_l.getD k7 d_Str)))]) un22 ty9 (by decide) rfl (oc rfl oz) (by kernel_rfl) ?_)))))))
    intro b60 w61 hs62 hz63 hB64 hE65
    have hO66 : OwnL w61 b60 (b60 + 1) 9 1 (RF e_Str) (some ⟨b60, 0, none⟩) 1 1 ([(p_l.getD k7 d_Str)] : List Str) := OwnL.of_box (S := fun _ => False) hB64 (Nat.le_refl _) (Nat.lt_succ_self _) (EncL.cons (c := [.string (bs ((p_l.getD k7 d_Str)))]) rfl rfl EncL.nil) (Nat.le_of_ble_eq_true rfl) (fun h => h) (fun _ h => False.elim h)
    refine sd rfl (yl_appendL (S := (fun _ => False)) (lo := w.heap.size) (hi := u31) (xs := x28) (ys := ([(p_l.getD k7 d_Str)] : List Str)) good_Str un22 ty9 rfl (Nat.le_of_ble_eq_true rfl) rfl rfl rfl (OwnL.ex good_Str (OwnL.ex good_Str hf47 hE58) hE65) (EncL.cons (c := [.string (bs ((p_l.getD k7 d_Str)))]) rfl rfl EncL.nil) (Or.inr ⟨_, _, rfl, rfl, hB64.cells (o := 0) (n := 1) rfl⟩) rfl (by first | omega | (simp only [List.length_append, List.length_cons, List.length_nil, List.length_take, List.length_drop, List.length_replicate, List.length_set, toS_length]; omega)) (by first | omega | (simp only [List.length_append, List.length_cons, List.length_nil, List.length_take, List.length_drop, List.length_replicate, List.length_set, toS_length]; omega)) (by omega) (by omega) (fun _ h _ => False.elim h) (by omega) ?_)
    intro A69 c70 w71 row72 hO73 hG74 hrg75
    have hG74z := hG74.size
    refine sd rfl (yl_assign rfl rfl (SeqR.done (bn (tn (CW.region (sd rfl (yl_inc rfl rfl rfl (by omega) (sd rfl (yl_move rfl rfl (dn ?_))))))))))
    have hB76 : B_s_l25Less_0 p_l p_others k7 (x28) = .cont ((x28 ++ ([(p_l.getD k7 d_Str)] : List Str))) := by simp only [B_s_l25Less_0, hb59, cL]
    exact ⟨p_l.length - (k7 + 1), by omega, k7 + 1, (x28 ++ ([(p_l.getD k7 d_Str)] : List Str)), A69, c70, w71.heap.size, rfl, hlt54, (by omega), rfl, rfl, rfl, rfl, rfl, (RdS.grown good_Str (RdS.ex good_Str (RdS.ex good_Str hf46 hE58) hE65) hG74 (fun k hk => by have := hrg75 k hk; simp only [Iv]; omega)), hO73, (RdS.grown good_Str (RdS.ex good_Str (RdS.ex good_Str hf48 hE58) hE65) hG74 (fun k hk => by have := hrg75 k hk; simp only [Iv]; omega)), (Below.grown (Ex.trans (Ex.trans hf49 hE58) hE65) hG74 (by omega) (fun k hk => by have := hrg75 k hk; omega)), (by omega), (by first | omega | (simp only [List.length_append, List.length_cons, List.length_nil, List.length_set, toS_length]; omega)), (okE.append hok52 ((okL.mk (Nat.le_of_ble_eq_true rfl) (okE.cons (okL.getD o2 ok_d_Str _) okE.nil))).2), (loopM.cont hlt54 hB76).symm.trans hI39⟩
   ·have hb59p := dec_f hb59
    refine CW.cond_f rfl hb59 (CW.skip (bn (tn (CW.region (sd rfl (yl_inc rfl rfl rfl (by omega) (sd rfl (yl_move rfl rfl (dn ?_)))))))))
    have hB86 : B_s_l25Less_0 p_l p_others k7 (x28) = .cont (x28) := by simp only [B_s_l25Less_0, hb59, cL]
    exact ⟨p_l.length - (k7 + 1), by omega, k7 + 1, x28, A29, c30, u31, rfl, hlt54, (by omega), rfl, rfl, rfl, rfl, rfl, (RdS.ex good_Str hf46 hE58), (OwnL.ex good_Str hf47 hE58), (RdS.ex good_Str hf48 hE58), (Ex.trans hf49 hE58), (by omega), (by first | omega | (simp only [List.length_append, List.length_cons, List.length_nil, List.length_set, toS_length]; omega)), hok52, (loopM.cont hlt54 hB86).symm.trans hI39⟩
  ·refine CW.seq (CW.region (sd rfl (yl_lss rfl rfl rfl (dn (CW.seq (CW.cond_f rfl (lt_f hlt54) (CW.exit (tx ?_))))))))
   refine tx ?_
   have hL91 : loopM (B_s_l25Less_0 p_l p_others) (p_l.length - 0) 0 (([] : List Str)) = .done (x28) := hI39.symm.trans (loopM.stop hlt54)
   refine bx (tn (CW.seq (CW.region (sd rfl (yl_move rfl rfl (sd rfl (yl_assign rfl rfl (dn (CW.ret ?_)))))))))
   refine rr rfl (.cons rfl .nil) ?_
   have hM92 : (s_l25Less p_l p_others) = (x28) := by simp only [s_l25Less, hL91, cL]
   rw [hM92]
   exact ⟨A29, c30, w.heap.size, u31, rfl, hf47, (okL.mk (xs := x28) (by first | omega | (simp only [List.length_append, List.length_cons, List.length_nil, List.length_take, List.length_drop, List.length_replicate, List.length_set, toS_length]; omega)) hok52), (by omega), hf49⟩
theorem c_s_l1Split {w : World} (p_s : Str) (p_b : Int) (o1 : okS p_s) : Cal Tryz.prog 57 #[.string (bs (p_s)), .int .u8 (p_b)] w fun v w' => ∃ A_1 c_1 lo_1 hi_1, v = .slice A_1 ((s_l1Split p_s p_b).length) c_1 ∧ OwnL w' lo_1 hi_1 9 1 (RF e_Str) A_1 ((s_l1Split p_s p_b).length) c_1 (s_l1Split p_s p_b) ∧ (w.heap.size ≤ lo_1 ∧ lo_1 ≤ hi_1 ∧ hi_1 ≤ w'.heap.size) ∧ Ex w w' := by
 have hol2 : p_s.length ≤ 1073741824 := o1
 refine Cal.of func57 rfl ntmps57 rfl (CW.seq (CW.region (sd rfl (yl_assign rfl rfl (dn (CW.seq (CW.region (sd rfl (yl_assign rfl rfl ?_)))))))))
 refine dn (CW.seq (CW.region (sd rfl (yl_assign rfl rfl (dn (CW.seq (CW.seq ?_)))))))
 refine CW.region (sd rfl (yl_assign rfl rfl (dn (CW.block (CW.loop (fun m26 L27 w28 => ∃ (k3 : Nat) (x21 : List Str) (x25 : Int) (A22 : Option Addr) (c23 : Nat) (u24 : Nat), m26 = p_s.length - k3 ∧ k3 ≤ p_s.length ∧ w.heap.size ≤ w28.heap.size ∧ lkp L27 0 = some (.string (bs (p_s))) ∧ lkp L27 1 = some (.int .u8 (p_b)) ∧ lkp L27 5 = some (.slice A22 x21.length c23) ∧ lkp L27 6 = some (.int .i64 (x25)) ∧ lkp L27 7 = some (.int .i64 ((k3 : Int))) ∧ OwnL w28 w.heap.size u24 9 1 (RF e_Str) A22 x21.length c23 x21 ∧ Ex w w28 ∧ (w.heap.size ≤ u24 ∧ u24 ≤ w28.heap.size) ∧ x21.length ≤ 0 + 1 * (k3 - 0) ∧ (∀ y ∈ x21, okS y) ∧ 0 ≤ x25 ∧ x25 ≤ (k3 : Int) ∧ loopM (B_s_l1Split_0 p_s p_b) (p_s.length - k3) k3 (x21, x25) = loopM (B_s_l1Split_0 p_s p_b) (p_s.length - 0) 0 (([] : List Str), 0)) (p_s.length - 0) ?_ ?_)))))
 ·exact ⟨0, ([] : List Str), 0, none, 0, w.heap.size, rfl, (by omega), Nat.le_refl _, rfl, rfl, rfl, rfl, rfl, (OwnL.nil w w.heap.size w.heap.size 9 1 (RF e_Str)), (Ex.refl w), (by omega), (by first | (simp; done) | (first | omega | (simp only [List.length_append, List.length_cons, List.length_nil, List.length_set, toS_length]; omega))), okE.nil, (by first | omega | assumption | (simp only [wI] at *; omega)), (by first | omega | assumption | (simp only [wI] at *; omega)), rfl⟩
 ·rintro m29 L30 w31 ⟨k3, x21, x25, A22, c23, u24, rfl, hk32, hsz34, hl35, hl36, hl37, hl38, hl39, hf40, hf41, hu42, hln43, hok44, hv45, hv46, hI33⟩
  refine CW.sub (Sub.cons hl35 (Sub.cons hl36 (Sub.cons hl37 (Sub.cons hl38 (Sub.cons hl39 (Sub.nil _)))))) ?_
  have hf41z := Ex.size hf41
  have hbg47 : p_s.length ≤ 1073741824 := o1
  rcases Nat.lt_or_ge k3 p_s.length with hlt48 | hlt48
  ·refine CW.seq (CW.seq (CW.region (sd rfl (yl_move rfl rfl (sd rfl (yl_move rfl rfl (sd rfl (yl_slen un9 (a := p_s) rfl rfl (sd rfl (yl_lss rfl rfl rfl (dn ?_)))))))))))
   refine CW.cond_t rfl (lt_t hlt48) (CW.skip (tn (CW.seq (CW.block (CW.seq (CW.region (sd rfl (yl_move rfl rfl (sd rfl (yl_move rfl rfl ?_))))))))))
   refine sd rfl (yl_sindexN un9 (a := p_s) rfl rfl rfl (by first | omega | assumption | (simp only [wI] at *; omega)) (sd rfl (yl_move rfl rfl (sd rfl (yl_eql rfl rfl rfl (dn (bcase (decide (((p_s.getD k3 0).toNat : Int) = p_b)) (fun hb49 => ?_) (fun hb49 => ?_))))))))
   ·have hb49p := dec_t hb49
    refine CW.cond_t rfl hb49 (CW.seq (CW.region (sd rfl (yl_move rfl rfl (sd rfl (yl_move rfl rfl (sd rfl (yl_move rfl rfl (sd rfl (yl_move rfl rfl (sd rfl (yl_sslice_lh un9 (a := p_s) (l := (x25).toNat) (h := k3) rfl rfl (toNat_op rfl (by omega)) rfl (by omega) (by omega) (sd rfl (yl_buildSlice (cs := [.string (bs (((p_s.take k3).drop ((x25).toNat))))]) un22 ty9 (by decide) rfl (oc rfl oz) (by kernel_rfl) ?_))))))))))))))
    intro b50 w51 hs52 hz53 hB54 hE55
    have hO56 : OwnL w51 b50 (b50 + 1) 9 1 (RF e_Str) (some ⟨b50, 0, none⟩) 1 1 ([((p_s.take k3).drop ((x25).toNat))] : List Str) := OwnL.of_box (S := fun _ => False) hB54 (Nat.le_refl _) (Nat.lt_succ_self _) (EncL.cons (c := [.string (bs (((p_s.take k3).drop ((x25).toNat))))]) rfl rfl EncL.nil) (Nat.le_of_ble_eq_true rfl) (fun h => h) (fun _ h => False.elim h)
    refine sd rfl (yl_appendL (S := (fun _ => False)) (lo := w.heap.size) (hi := u24) (xs := x21) (ys := ([((p_s.take k3).drop ((x25).toNat))] : List Str)) good_Str un22 ty9 rfl (Nat.le_of_ble_eq_true rfl) rfl rfl rfl (OwnL.ex good_Str hf40 hE55) (EncL.cons (c := [.string (bs (((p_s.take k3).drop ((x25).toNat))))]) rfl rfl EncL.nil) (Or.inr ⟨_, _, rfl, rfl, hB54.cells (o := 0) (n := 1) rfl⟩) rfl (by first | omega | (simp only [List.length_append, List.length_cons, List.length_nil, List.length_take, List.length_drop, List.length_replicate, List.length_set, toS_length]; omega)) (by first | omega | (simp only [List.length_append, List.length_cons, List.length_nil, List.length_take, List.length_drop, List.length_replicate, List.length_set, toS_length]; omega)) (by omega) (by omega) (fun _ h _ => False.elim h) (by omega) ?_)
    intro A58 c59 w60 row61 hO62 hG63 hrg64
    have hG63z := hG63.size
    refine sd rfl (yl_assign rfl rfl (dn (CW.region (sd rfl (yl_move rfl rfl (sd rfl (yl_inc rfl rfl rfl (by omega) (sd rfl (yl_assign rfl rfl (SeqR.done (bn ?_)))))))))))
    refine tn (CW.region (sd rfl (yl_move rfl rfl (sd rfl (yl_inc rfl rfl rfl (by omega) (sd rfl (yl_assign rfl rfl (dn ?_))))))))
    have hB65 : B_s_l1Split_0 p_s p_b k3 (x21, x25) = .cont ((x21 ++ ([((p_s.take k3).drop ((x25).toNat))] : List Str)), ((k3 + 1 : Nat) : Int)) := by simp only [B_s_l1Split_0, hb49, cL]
    exact ⟨p_s.length - (k3 + 1), by omega, k3 + 1, (x21 ++ ([((p_s.take k3).drop ((x25).toNat))] : List Str)), ((k3 + 1 : Nat) : Int), A58, c59, w60.heap.size, rfl, hlt48, (by omega), rfl, rfl, rfl, rfl, rfl, hO62, (Below.grown (Ex.trans hf41 hE55) hG63 (by omega) (fun k hk => by have := hrg64 k hk; omega)), (by omega), (by first | omega | (simp only [List.length_append, List.length_cons, List.length_nil, List.length_set, toS_length]; omega)), (okE.append hok44 ((okL.mk (Nat.le_of_ble_eq_true rfl) (okE.cons (okS.drop (okS.take o1 _) _) okE.nil))).2), (by first | omega | assumption | (simp only [wI] at *; omega)), (by first | omega | assumption | (simp only [wI] at *; omega)), (loopM.cont hlt48 hB65).symm.trans hI33⟩
   ·have hb49p := dec_f hb49
    refine CW.cond_f rfl hb49 (CW.skip (bn (tn (CW.region (sd rfl (yl_move rfl rfl (sd rfl (yl_inc rfl rfl rfl (by omega) (sd rfl (yl_assign rfl rfl (SeqR.done ?_)))))))))))
    refine tn ?_
    have hB68 : B_s_l1Split_0 p_s p_b k3 (x21, x25) = .cont (x21, x25) := by simp only [B_s_l1Split_0, hb49, cL]
    exact ⟨p_s.length - (k3 + 1), by omega, k3 + 1, x21, x25, A22, c23, u24, rfl, hlt48, (by omega), rfl, rfl, rfl, rfl, rfl, hf40, hf41, (by omega), (by first | omega | (simp only [List.length_append, List.length_cons, List.length_nil, List.length_set, toS_length]; omega)), hok44, (by first | omega | assumption | (simp only [wI] at *; omega)), (by first | omega | assumption | (simp only [wI] at *; omega)), (loopM.cont hlt48 hB68).symm.trans hI33⟩
  ·refine CW.seq (CW.seq (CW.region (sd rfl (yl_move rfl rfl (sd rfl (yl_move rfl rfl (sd rfl (yl_slen un9 (a := p_s) rfl rfl (sd rfl (yl_lss rfl rfl rfl (dn ?_)))))))))))
   refine CW.cond_f rfl (lt_f hlt48) (CW.exit (tx (tx ?_)))
   have hL69 : loopM (B_s_l1Split_0 p_s p_b) (p_s.length - 0) 0 (([] : List Str), 0) = .done (x21, x25) := hI33.symm.trans (loopM.stop hlt48)
   refine bx (tn (CW.seq (CW.region (sd rfl (yl_move rfl rfl (sd rfl (yl_move rfl rfl (sd rfl (yl_move rfl rfl (sd rfl (yl_sslice_lo un9 (a := p_s) (l := (x25).toNat) rfl rfl (toNat_op rfl (by omega)) (by omega) (sd rfl (yl_buildSlice (cs := [.string (bs ((p_s.drop ((x25).toNat))))]) un22 ty9 (by decide) rfl (oc rfl oz) (by kernel_rfl) ?_)))))))))))))
   intro b70 w71 hs72 hz73 hB74 hE75
   have hO76 : OwnL w71 b70 (b70 + 1) 9 1 (RF e_Str) (some ⟨b70, 0, none⟩) 1 1 ([(p_s.drop ((x25).toNat))] : List Str) := OwnL.of_box (S := fun _ => False) hB74 (Nat.le_refl _) (Nat.lt_succ_self _) (EncL.cons (c := [.string (bs ((p_s.drop ((x25).toNat))))]) rfl rfl EncL.nil) (Nat.le_of_ble_eq_true rfl) (fun h => h) (fun _ h => False.elim h)
   refine sd rfl (yl_appendL (S := (fun _ => False)) (lo := w.heap.size) (hi := u24) (xs := x21) (ys := ([(p_s.drop ((x25).toNat))] : List Str)) good_Str un22 ty9 rfl (Nat.le_of_ble_eq_true rfl) rfl rfl rfl (OwnL.ex good_Str hf40 hE75) (EncL.cons (c := [.string (bs ((p_s.drop ((x25).toNat))))]) rfl rfl EncL.nil) (Or.inr ⟨_, _, rfl, rfl, hB74.cells (o := 0) (n := 1) rfl⟩) rfl (by first | omega | (simp only [List.length_append, List.length_cons, List.length_nil, List.length_take, List.length_drop, List.length_replicate, List.length_set, toS_length]; omega)) (by first | omega | (simp only [List.length_append, List.length_cons, List.length_nil, List.length_take, List.length_drop, List.length_replicate, List.length_set, toS_length]; omega)) (by omega) (by omega) (fun _ h _ => False.elim h) (by omega) ?_)
   intro A78 c79 w80 row81 hO82 hG83 hrg84
   have hG83z := hG83.size
   refine sd rfl (yl_assign rfl rfl (dn (CW.ret (rr rfl (.cons rfl .nil) ?_))))
   have hM85 : (s_l1Split p_s p_b) = ((x21 ++ ([(p_s.drop ((x25).toNat))] : List Str))) := by simp only [s_l1Split, hL69, cL]
   rw [hM85]
   exact ⟨A78, c79, w.heap.size, w80.heap.size, rfl, hO82, (by omega), (Below.grown (Ex.trans hf41 hE75) hG83 (by omega) (fun k hk => by have := hrg84 k hk; omega))⟩
theorem c_s_l25Field {w : World} (p_s : Str) (o1 : okS p_s) : Cal Tryz.prog 58 #[.string (bs (p_s))] w fun v w' => v = .bool ((s_l25Field p_s)) ∧ Ex w w' := by
 refine Cal.of func58 rfl ntmps58 rfl (CW.seq (CW.region (sd rfl (yl_assign rfl rfl (dn (CW.seq (CW.region (sd rfl (yl_move rfl rfl ?_)))))))))
 refine sd rfl (yl_slen un9 (a := p_s) rfl rfl (sd rfl (yl_call en54 rfl (oc rfl (oc rfl (oc rfl oz))) (Cal.mono (c_s_l1In (p_s.length : Int) 1 3) ?_))))
 rintro v4 w3 ⟨rfl, hE5⟩
 refine sd rfl (yl_move rfl rfl (bcase (s_l1In (p_s.length : Int) 1 3) (fun hb6 => ?_) (fun hb6 => ?_)))
 ·have hb6p := f_l1In hb6
  refine sy rfl rfl hb6 (yl_move rfl rfl (sy rfl rfl hb6 (yl_call en74 rfl (oc rfl (oc rfl oz)) (Cal.mono (c_s_l3Bytes p_s ([] : Str) o1 (okS.lit rfl)) ?_))))
  rintro v8 w7 ⟨rfl, hE9⟩
  refine sd rfl (yl_pick_t rfl rfl hb6 rfl (sd rfl (yl_assign rfl rfl (dn (CW.ret (rr rfl (.cons rfl .nil) ?_))))))
  have hM10 : (s_l25Field p_s) = ((s_l3Bytes p_s ([] : Str))) := by simp only [s_l25Field, hb6, cL]
  rw [hM10]
  exact ⟨rfl, (Ex.trans (Ex.trans (Ex.refl w) hE5) hE9)⟩
 ·refine sz rfl rfl hb6 (sz rfl rfl hb6 (sd rfl (yl_pick_f rfl rfl hb6 rfl (sd rfl (yl_assign rfl rfl (dn (CW.ret (rr rfl (.cons rfl .nil) ?_))))))))
  have hM13 : (s_l25Field p_s) = (false) := by simp only [s_l25Field, hb6, cL]
  rw [hM13]
  exact ⟨rfl, (Ex.trans (Ex.refl w) hE5)⟩
theorem c_s_l25Good {A1 : Option Addr} {c1 : Nat} {A2 : Option Addr} {c2 : Nat} {A4 : Option Addr} {c4 : Nat} {w : World} (p_t : DTable) (p_r : DRow) (h1 : RdS w (Iv 0 w.heap.size) (RF e_Str) 1 A1 p_t.Cols.length c1 p_t.Cols) (h2 : RdS w (Iv 0 w.heap.size) (RF e_Idx) 3 A2 p_t.Idxs.length c2 p_t.Idxs) (h4 : RdS w (Iv 0 w.heap.size) (RF e_Str) 1 A4 p_r.Vals.length c4 p_r.Vals) (o3 : ok_Table p_t) (o5 : ok_Row p_r) : Cal Tryz.prog 72 #[.agg #[.string (bs (p_t.Name)), .slice A1 p_t.Cols.length c1, .slice A2 p_t.Idxs.length c2], .agg #[.slice A4 p_r.Vals.length c4]] w fun v w' => v = .bool ((s_l25Good p_t p_r)) ∧ Ex w w' := by
 have hol6 : p_t.Name.length ≤ 1073741824 := o3.1
 have hol7 := o3.2.1.1
 have hol8 := o3.2.2.1
 have hol9 := o5.1
 refine Cal.of func72 rfl ntmps72 rfl (CW.seq (CW.region (sd rfl (yl_box rfl rfl rfl ?_))))
 intro b10 w11 hs12 hz13 hB14 hE15
 refine sd rfl (yl_box rfl rfl rfl ?_)
 intro b16 w17 hs18 hz19 hB20 hE21
 refine sd rfl (yl_assign rfl rfl (dn (CW.seq (CW.seq (CW.region (sd rfl (yl_fieldAddr fd70_0 rfl rfl (sd rfl (yl_load1 ty22 rfl rfl ((hB20.cell 0).trans rfl) (sd rfl (yl_len un22 rfl rfl ?_)))))))))))
 refine sd rfl (yl_move rfl rfl (dn (CW.block (CW.loop (fun m23 L24 w25 => ∃ (k22 : Nat), m23 = p_r.Vals.length - k22 ∧ k22 ≤ p_r.Vals.length ∧ w17.heap.size ≤ w25.heap.size ∧ lkp L24 2 = some (.pointer (some ⟨b10, 0, none⟩)) ∧ lkp L24 3 = some (.pointer (some ⟨b16, 0, none⟩)) ∧ lkp L24 8 = some (.slice A4 p_r.Vals.length c4) ∧ lkp L24 9 = some (.int .i64 ((p_r.Vals.length : Int))) ∧ lkp L24 10 = some (.int .i64 ((k22 : Int))) ∧ Box w25 b10 33 [.string (bs (p_t.Name)), .slice A1 p_t.Cols.length c1, .slice A2 p_t.Idxs.length c2] ∧ RdS w25 (Iv 0 w.heap.size) (RF e_Str) 1 A1 p_t.Cols.length c1 p_t.Cols ∧ RdS w25 (Iv 0 w.heap.size) (RF e_Idx) 3 A2 p_t.Idxs.length c2 p_t.Idxs ∧ Box w25 b16 70 [.slice A4 p_r.Vals.length c4] ∧ RdS w25 (Iv 0 w.heap.size) (RF e_Str) 1 A4 p_r.Vals.length c4 p_r.Vals ∧ Ex w w25 ∧ loopM (B_s_l25Good_0 p_t p_r) (p_r.Vals.length - k22) k22 () = loopM (B_s_l25Good_0 p_t p_r) (p_r.Vals.length - 0) 0 ()) (p_r.Vals.length - 0) ?_ ?_))))
 ·exact ⟨0, rfl, (by omega), Nat.le_refl _, rfl, rfl, rfl, rfl, rfl, (Box.ex hB14 hE21), (RdS.ex good_Str (RdS.ex good_Str h1 hE15) hE21), (RdS.ex good_Idx (RdS.ex good_Idx h2 hE15) hE21), hB20, (RdS.ex good_Str (RdS.ex good_Str h4 hE15) hE21), (Ex.trans (Ex.trans (Ex.refl w) hE15) hE21), rfl⟩
 ·rintro m35 L36 w37 ⟨k22, rfl, hk38, hsz40, hl41, hl42, hl43, hl44, hl45, hf46, hf47, hf48, hf49, hf50, hf51, hI39⟩
  refine CW.sub (Sub.cons hl41 (Sub.cons hl42 (Sub.cons hl43 (Sub.cons hl44 (Sub.cons hl45 (Sub.nil _)))))) ?_
  have hf46z := Box.lt hf46
  have hf49z := Box.lt hf49
  have hf51z := Ex.size hf51
  have hbg52 := RdS.big hf50
  rcases Nat.lt_or_ge k22 p_r.Vals.length with hlt53 | hlt53
  ·refine CW.seq (CW.region (sd rfl (yl_lss rfl rfl rfl (dn (CW.seq (CW.cond_t rfl (lt_t hlt53) (CW.skip (tn ?_))))))))
   refine CW.seq (CW.block (CW.seq (CW.region ?_)))
   obtain ⟨eb54, eo54, _, eA54, _, ebl54, _, eR54, eC54⟩ := RdS.aD hf50 d_Str (i := k22)
   obtain rfl := eR54
   have eC54 : Cells w37 eb54 (eo54 + k22 * 1) [.string (bs ((p_r.Vals.getD k22 d_Str)))] := eC54
   refine sd rfl (yl_ixN un22 ty9 rfl rfl rfl eA54 (sd rfl (yl_load1 ty9 rfl rfl (eC54 0 _ rfl) (sd rfl (yl_assign rfl rfl (dn (CW.seq (CW.region (sd rfl (yl_move rfl rfl (sd rfl (yl_call en58 rfl (oc rfl oz) (Cal.mono (c_s_l25Field (p_r.Vals.getD k22 d_Str) (okL.getD o5 ok_d_Str _)) ?_)))))))))))))
   rintro v56 w55 ⟨rfl, hE57⟩
   have hE57z := Ex.size hE57
   refine sd rfl (yl_not rfl rfl (dn (bcase (s_l25Field (p_r.Vals.getD k22 d_Str)) (fun hb58 => ?_) (fun hb58 => ?_))))
   ·refine CW.cond_f rfl (not_t hb58) (CW.skip (bn (tn (CW.region (sd rfl (yl_inc rfl rfl rfl (by omega) (sd rfl (yl_move rfl rfl (dn ?_)))))))))
    have hB59 : B_s_l25Good_0 p_t p_r k22 () = .cont () := by simp only [B_s_l25Good_0, hb58, cL]
    exact ⟨p_r.Vals.length - (k22 + 1), by omega, k22 + 1, rfl, hlt53, (by omega), rfl, rfl, rfl, rfl, rfl, (Box.ex hf46 hE57), (RdS.ex good_Str hf47 hE57), (RdS.ex good_Idx hf48 hE57), (Box.ex hf49 hE57), (RdS.ex good_Str hf50 hE57), (Ex.trans hf51 hE57), (loopM.cont hlt53 hB59).symm.trans hI39⟩
   ·refine CW.cond_t rfl (not_f hb58) (CW.seq (CW.region (sd rfl (yl_assign rfl rfl (dn (CW.ret (br (tr ?_))))))))
    refine tr ?_
    have hB67 : B_s_l25Good_0 p_t p_r k22 () = .ret false := by simp only [B_s_l25Good_0, hb58, cL]
    have hL66 : loopM (B_s_l25Good_0 p_t p_r) (p_r.Vals.length - 0) 0 () = .ret false := hI39.symm.trans (loopM.ret hlt53 hB67)
    refine br (tr (rr rfl (.cons rfl .nil) ?_))
    have hM68 : (s_l25Good p_t p_r) = (false) := by simp only [s_l25Good, hb58, hL66, cL]
    rw [hM68]
    exact ⟨rfl, (Ex.trans hf51 hE57)⟩
  ·refine CW.seq (CW.region (sd rfl (yl_lss rfl rfl rfl (dn (CW.seq (CW.cond_f rfl (lt_f hlt53) (CW.exit (tx ?_))))))))
   refine tx ?_
   have hL70 : loopM (B_s_l25Good_0 p_t p_r) (p_r.Vals.length - 0) 0 () = .done () := hI39.symm.trans (loopM.stop hlt53)
   refine bx (tn (CW.seq (CW.region (sd rfl (yl_fieldAddr fd70_0 rfl rfl (sd rfl (yl_load1 ty22 rfl rfl ((hf49.cell 0).trans rfl) (sd rfl (yl_len un22 rfl rfl (sd rfl (yl_fieldAddr fd33_1 rfl rfl (sd rfl (yl_load1 ty22 rfl rfl ((hf46.cell 1).trans rfl) ?_)))))))))))))
   refine sd rfl (yl_len un22 rfl rfl (sd rfl (yl_eql rfl rfl rfl (sd rfl (yl_assign rfl rfl (dn (CW.ret (rr rfl (.cons rfl .nil) ?_))))))))
   have hM71 : (s_l25Good p_t p_r) = (decide ((p_r.Vals.length : Int) = (p_t.Cols.length : Int))) := by simp only [s_l25Good, hL70, cL]
   rw [hM71]
   exact ⟨rfl, hf51⟩
theorem c_s_l24Join {A1 : Option Addr} {c1 : Nat} {w : World} (p_l : List Str) (p_by : Str) (h1 : RdS w (Iv 0 w.heap.size) (RF e_Str) 1 A1 p_l.length c1 p_l) (o2 : (okL okS) p_l) (o3 : okS p_by) : Cal Tryz.prog 95 #[.slice A1 p_l.length c1, .string (bs (p_by))] w fun v w' => v = .string (bs ((s_l24Join p_l p_by))) ∧ Ex w w' := by
 have hol4 := o2.1
 have hol5 : p_by.length ≤ 1073741824 := o3
 refine Cal.of func95 rfl ntmps95 rfl (CW.seq (CW.region (sd rfl (yl_assign rfl rfl (dn (CW.seq (CW.region (sd rfl (yl_assign rfl rfl ?_)))))))))
 refine dn (CW.seq (CW.seq (CW.region (sd rfl (yl_move rfl rfl (sd rfl (yl_len un22 rfl rfl (sd rfl (yl_move rfl rfl (SeqR.done ?_))))))))))
 refine tn (CW.block (CW.loop (fun m15 L16 w17 => ∃ (k6 : Nat) (x14 : Str), m15 = p_l.length - k6 ∧ k6 ≤ p_l.length ∧ w.heap.size ≤ w17.heap.size ∧ lkp L16 1 = some (.string (bs (p_by))) ∧ lkp L16 5 = some (.string (bs (x14))) ∧ lkp L16 8 = some (.slice A1 p_l.length c1) ∧ lkp L16 9 = some (.int .i64 ((p_l.length : Int))) ∧ lkp L16 10 = some (.int .i64 ((k6 : Int))) ∧ RdS w17 (Iv 0 w.heap.size) (RF e_Str) 1 A1 p_l.length c1 p_l ∧ Ex w w17 ∧ x14.length ≤ 0 + 2147483648 * (k6 - 0) ∧ loopM (B_s_l24Join_0 p_l p_by) (p_l.length - k6) k6 (x14) = loopM (B_s_l24Join_0 p_l p_by) (p_l.length - 0) 0 (([] : Str))) (p_l.length - 0) ?_ ?_))
 ·exact ⟨0, ([] : Str), rfl, (by omega), Nat.le_refl _, rfl, rfl, rfl, rfl, rfl, h1, (Ex.refl w), (by first | (simp; done) | (first | omega | (simp only [List.length_append, List.length_cons, List.length_nil, List.length_set, toS_length]; omega))), rfl⟩
 ·rintro m18 L19 w20 ⟨k6, x14, rfl, hk21, hsz23, hl24, hl25, hl26, hl27, hl28, hf29, hf30, hln31, hI22⟩
  refine CW.sub (Sub.cons hl24 (Sub.cons hl25 (Sub.cons hl26 (Sub.cons hl27 (Sub.cons hl28 (Sub.nil _)))))) ?_
  have hf30z := Ex.size hf30
  have hbg32 := RdS.big hf29
  rcases Nat.lt_or_ge k6 p_l.length with hlt33 | hlt33
  ·refine CW.seq (CW.region (sd rfl (yl_lss rfl rfl rfl (dn (CW.seq (CW.cond_t rfl (lt_t hlt33) (CW.skip (tn ?_))))))))
   refine CW.seq (CW.block (CW.seq (CW.region (sd rfl (yl_move rfl rfl ?_)))))
   obtain ⟨eb34, eo34, _, eA34, _, ebl34, _, eR34, eC34⟩ := RdS.aD hf29 d_Str (i := k6)
   obtain rfl := eR34
   have eC34 : Cells w20 eb34 (eo34 + k6 * 1) [.string (bs ((p_l.getD k6 d_Str)))] := eC34
   refine sd rfl (yl_ixN un22 ty9 rfl rfl rfl eA34 (sd rfl (yl_load1 ty9 rfl rfl (eC34 0 _ rfl) (sd rfl (yl_assign rfl rfl (sd rfl (yl_assign rfl rfl (dn (CW.seq (CW.seq (CW.region ?_)))))))))))
   refine sd rfl (yl_move rfl rfl (sd rfl (yl_gtr rfl rfl rfl (dn (bcase (decide (0 < (k6 : Int))) (fun hb35 => ?_) (fun hb35 => ?_))))))
   ·have hb35p := dec_t hb35
    refine CW.cond_t rfl hb35 (CW.region (sd rfl (yl_move rfl rfl (sd rfl (yl_move rfl rfl ?_)))))
    have hol36 : p_by.length ≤ 1073741824 := o3
    refine sd rfl (yl_sadd (a := x14) (b := p_by) rfl rfl rfl (by first | omega | (simp only [List.length_append, List.length_cons, List.length_nil, List.length_take, List.length_drop, toS_length]; omega)) (sd rfl (yl_assign rfl rfl (dn (CW.region (sd rfl (yl_move rfl rfl (sd rfl (yl_move rfl rfl ?_)))))))))
    have hol37 : p_by.length ≤ 1073741824 := o3
    have hol38 : (p_l.getD k6 d_Str).length ≤ 1073741824 := (okL.getD o2 ok_d_Str _)
    refine sd rfl (yl_sadd (a := (x14 ++ p_by)) (b := (p_l.getD k6 d_Str)) rfl rfl rfl (by first | omega | (simp only [List.length_append, List.length_cons, List.length_nil, List.length_take, List.length_drop, toS_length]; omega)) (sd rfl (yl_assign rfl rfl (SeqR.done (bn (tn (CW.region (sd rfl (yl_inc rfl rfl rfl (by omega) (sd rfl (yl_move rfl rfl (SeqR.done ?_))))))))))))
    refine tn ?_
    have hB39 : B_s_l24Join_0 p_l p_by k6 (x14) = .cont ((x14 ++ p_by) ++ (p_l.getD k6 d_Str)) := by simp only [B_s_l24Join_0, hb35, cL]
    exact ⟨p_l.length - (k6 + 1), by omega, k6 + 1, (x14 ++ p_by) ++ (p_l.getD k6 d_Str), rfl, hlt33, (by omega), rfl, rfl, rfl, rfl, rfl, hf29, hf30, (by first | omega | (simp only [List.length_append, List.length_cons, List.length_nil, List.length_set, toS_length]; omega)), (loopM.cont hlt33 hB39).symm.trans hI22⟩
   ·have hb35p := dec_f hb35
    refine CW.cond_f rfl hb35 (CW.skip (tn (CW.region (sd rfl (yl_move rfl rfl (sd rfl (yl_move rfl rfl ?_)))))))
    have hol40 : (p_l.getD k6 d_Str).length ≤ 1073741824 := (okL.getD o2 ok_d_Str _)
    refine sd rfl (yl_sadd (a := x14) (b := (p_l.getD k6 d_Str)) rfl rfl rfl (by first | omega | (simp only [List.length_append, List.length_cons, List.length_nil, List.length_take, List.length_drop, toS_length]; omega)) (sd rfl (yl_assign rfl rfl (SeqR.done (bn (tn (CW.region (sd rfl (yl_inc rfl rfl rfl (by omega) (sd rfl (yl_move rfl rfl (SeqR.done ?_))))))))))))
    refine tn ?_
    have hB41 : B_s_l24Join_0 p_l p_by k6 (x14) = .cont (x14 ++ (p_l.getD k6 d_Str)) := by simp only [B_s_l24Join_0, hb35, cL]
    exact ⟨p_l.length - (k6 + 1), by omega, k6 + 1, x14 ++ (p_l.getD k6 d_Str), rfl, hlt33, (by omega), rfl, rfl, rfl, rfl, rfl, hf29, hf30, (by first | omega | (simp only [List.length_append, List.length_cons, List.length_nil, List.length_set, toS_length]; omega)), (loopM.cont hlt33 hB41).symm.trans hI22⟩
  ·refine CW.seq (CW.region (sd rfl (yl_lss rfl rfl rfl (dn (CW.seq (CW.cond_f rfl (lt_f hlt33) (CW.exit (tx ?_))))))))
   refine tx ?_
   have hL42 : loopM (B_s_l24Join_0 p_l p_by) (p_l.length - 0) 0 (([] : Str)) = .done (x14) := hI22.symm.trans (loopM.stop hlt33)
   refine bx (tn (CW.seq (CW.region (sd rfl (yl_move rfl rfl (sd rfl (yl_assign rfl rfl (dn (CW.ret ?_)))))))))
   refine rr rfl (.cons rfl .nil) ?_
   have hM43 : (s_l24Join p_l p_by) = (x14) := by simp only [s_l24Join, hL42, cL]
   rw [hM43]
   exact ⟨rfl, hf30⟩
theorem c_s_l25Write {A1 : Option Addr} {c1 : Nat} {A2 : Option Addr} {c2 : Nat} {A4 : Option Addr} {c4 : Nat} {w : World} (p_t : DTable) (p_r : DRow) (h1 : RdS w (Iv 0 w.heap.size) (RF e_Str) 1 A1 p_t.Cols.length c1 p_t.Cols) (h2 : RdS w (Iv 0 w.heap.size) (RF e_Idx) 3 A2 p_t.Idxs.length c2 p_t.Idxs) (h4 : RdS w (Iv 0 w.heap.size) (RF e_Str) 1 A4 p_r.Vals.length c4 p_r.Vals) (o3 : ok_Table p_t) (o5 : ok_Row p_r) (pre0 : 0 < p_r.Vals.length) : Cal Tryz.prog 73 #[.agg #[.string (bs (p_t.Name)), .slice A1 p_t.Cols.length c1, .slice A2 p_t.Idxs.length c2], .agg #[.slice A4 p_r.Vals.length c4]] w fun v w' => v = .agg #[.string (bs ((s_l25Write p_t p_r).Key)), .string (bs ((s_l25Write p_t p_r).Val)), .bool ((s_l25Write p_t p_r).Gone)] ∧ Ex w w' := by
 have hol6 : p_t.Name.length ≤ 1073741824 := o3.1
 have hol7 := o3.2.1.1
 have hol8 := o3.2.2.1
 have hol9 := o5.1
 refine Cal.of func73 rfl ntmps73 rfl (CW.seq (CW.region (sd rfl (yl_box rfl rfl rfl ?_))))
 intro b10 w11 hs12 hz13 hB14 hE15
 refine sd rfl (yl_box rfl rfl rfl ?_)
 intro b16 w17 hs18 hz19 hB20 hE21
 refine sd rfl (yl_alloc ty53 (cs := [.string (bs (([] : Str))), .string (bs (([] : Str))), .bool (false)]) rfl rfl ?_)
 intro b22 w23 hs24 hz25 hB26 hE27
 refine dn (CW.seq ?_)
 have hol30 : p_t.Name.length ≤ 1073741824 := o3.1
 have q31 := Box.ex hB20 hE27
 have q34 := RdS.ex good_Str (RdS.ex good_Str (RdS.ex good_Str h4 hE15) hE21) hE27
 obtain ⟨eb35, eo35, _, eA35, _, ebl35, _, eR35, eC35⟩ := RdS.aD q34 d_Str (i := 0)
 obtain rfl := eR35
 have eC35 : Cells w23 eb35 (eo35 + 0 * 1) [.string (bs ((p_r.Vals.getD 0 d_Str)))] := eC35
 have hol36 : p_t.Name.length ≤ 1073741824 := o3.1
 have hol37 : (p_r.Vals.getD 0 d_Str).length ≤ 1073741824 := (okL.getD o5 ok_d_Str _)
 obtain ⟨A38, c39, he42, h41⟩ := RdS.sl (RdS.drop q34 (k := 1) (by omega))
 have hrc43 := (q34).2.1
 refine CW.drawsI 12 (vgetI [DetI (.pointer (some ⟨b10, 0 + 0, none⟩)), DetI (.string (bs (p_t.Name))), DetI (.string (bs (p_t.Name ++ ([47] : Str)))), DetI (.pointer (some ⟨b16, 0 + 0, none⟩)), DetI (.slice A4 p_r.Vals.length c4), DetI (.pointer (some ⟨eb35, eo35 + 0 * 1, none⟩)), DetI (.string (bs ((p_r.Vals.getD 0 d_Str)))), DetI (.string (bs ((p_t.Name ++ ([47] : Str)) ++ (p_r.Vals.getD 0 d_Str)))), DetI (.pointer (some ⟨b16, 0 + 0, none⟩)), DetI (.slice A4 p_r.Vals.length c4), fun lo hi v wq => ∃ A38 c39, v = .slice A38 ((p_r.Vals.drop 1).length) c39 ∧ RdS wq (Iv 0 w.heap.size) (RF e_Str) 1 A38 (p_r.Vals.drop 1).length c39 (p_r.Vals.drop 1), DetI (.string (bs ((s_l24Join (p_r.Vals.drop 1) ([44] : Str)))))]) Tryz.follows rfl rfl rfl rfl rfl rfl (vgetI_stable ⟨StableI.det _, StableI.det _, StableI.det _, StableI.det _, StableI.det _, StableI.det _, StableI.det _, StableI.det _, StableI.det _, StableI.det _, (fun _ _ _ _ _ ⟨A38, c39, hv, h44⟩ e => ⟨A38, c39, hv, RdS.ex good_Str h44 e⟩), StableI.det _, trivial⟩) ⟨?_, ?_, ?_, ?_, ?_, ?_, ?_, ?_, ?_, ?_, ?_, ?_, trivial⟩ ?_
 ·exact oI rfl fun h => yl_fieldAddr fd33_0 rfl (h.old 2 _ rfl rfl) kI
 ·exact oI rfl fun h => yl_load1 ty9 rfl (h.dt 0 5 rfl rfl rfl) (((Box.ex (Box.ex (Box.ex hB14 hE21) hE27) h.ex).cell 0).trans rfl) kI
 ·intro L57 w58 hi59
  have hE60 := hi59.ex
  have hE60z := Ex.size hE60
  have hol62 : p_t.Name.length ≤ 1073741824 := o3.1
  exact os rfl ((yl_sadd (a := p_t.Name) (b := ([47] : Str)) rfl (hi59.dt 1 6 rfl rfl rfl) rfl (by first | omega | (simp only [List.length_append, List.length_cons, List.length_nil, List.length_take, List.length_drop, toS_length]; omega)) kI))
 ·exact oI rfl fun h => yl_fieldAddr fd70_0 rfl (h.old 3 _ rfl rfl) kI
 ·exact oI rfl fun h => yl_load1 ty22 rfl (h.dt 3 8 rfl rfl rfl) (((Box.ex q31 h.ex).cell 0).trans rfl) kI
 ·intro L74 w75 hi76
  have hE77 := hi76.ex
  have hE77z := Ex.size hE77
  exact os rfl ((yl_ixN un22 ty9 rfl (hi76.dt 4 9 rfl rfl rfl) rfl eA35 kI))
 ·exact oI rfl fun h => yl_load1 ty9 rfl (h.dt 5 10 rfl rfl rfl) ((Cells.ex eC35 h.ex) 0 _ rfl) kI
 ·intro L85 w86 hi87
  have hE88 := hi87.ex
  have hE88z := Ex.size hE88
  have hol91 : p_t.Name.length ≤ 1073741824 := o3.1
  have hol92 : (p_r.Vals.getD 0 d_Str).length ≤ 1073741824 := (okL.getD o5 ok_d_Str _)
  exact os rfl ((yl_sadd (a := (p_t.Name ++ ([47] : Str))) (b := (p_r.Vals.getD 0 d_Str)) rfl (hi87.dt 2 7 rfl rfl rfl) (hi87.dt 6 11 rfl rfl rfl) (by first | omega | (simp only [List.length_append, List.length_cons, List.length_nil, List.length_take, List.length_drop, toS_length]; omega)) kI))
 ·exact oI rfl fun h => yl_fieldAddr fd70_0 rfl (h.old 3 _ rfl rfl) kI
 ·exact oI rfl fun h => yl_load1 ty22 rfl (h.dt 8 13 rfl rfl rfl) (((Box.ex q31 h.ex).cell 0).trans rfl) kI
 ·intro L104 w105 hi106
  have hE107 := hi106.ex
  have hE107z := Ex.size hE107
  have q109 := RdS.ex good_Str q34 hE107
  obtain ⟨A110, c111, he114, h113⟩ := RdS.sl (RdS.drop q109 (k := 1) (by omega))
  have hrc115 := (q109).2.1
  exact os rfl ((yl_sliceR (kh := .i64) (l := 1) (h := p_r.Vals.length) un22 ty9 rfl (hi106.dt 9 14 rfl rfl rfl) (.inr ⟨_, rfl, rfl⟩) (.inl ⟨rfl, rfl⟩) (by omega) (by omega) he114 ⟨fun _ _ => ⟨A110, c111, rfl, h113⟩, rfl⟩))
 ·intro L116 w117 hi118
  obtain ⟨lo121, hh122, _, hx120, hr123, hr124, hr125, A38_126, c39_127, rfl, h128⟩ := hi118.dep 10 15 rfl rfl
  exact OpR.op' rfl (yl_call en95 rfl (oc hx120 (oc rfl oz)) (Cal.mono (c_s_l24Join (p_r.Vals.drop 1) ([44] : Str) (RdS.up h128 good_Str) (okL.drop o5 _) (okS.lit rfl)) fun _ _ h => h))
 ·intro fl135 fh136 L132 w133 hp134
  have hE137 := hp134.ex
  have hE137z := Ex.size hE137
  have hx138 := hp134.old 4 _ rfl rfl
  refine sd rfl (yl_build (cs := [.string (bs ((p_t.Name ++ ([47] : Str)) ++ (p_r.Vals.getD 0 d_Str))), .string (bs ((s_l24Join (p_r.Vals.drop 1) ([44] : Str)))), .bool (false)]) rfl (oc (hp134.nt 7 12 rfl rfl rfl) (oc (hp134.nt 11 16 rfl rfl rfl) oz)) (by kernel_rfl) (SeqR.u rfl rfl (yl_store (vs := [.string (bs ((p_t.Name ++ ([47] : Str)) ++ (p_r.Vals.getD 0 d_Str))), .string (bs ((s_l24Join (p_r.Vals.drop 1) ([44] : Str)))), .bool (false)]) ty53 rfl hx138 rfl rfl rfl rfl (Box.ex hB26 hE137) (Nat.le_of_ble_eq_true rfl) ?_)))
  intro w142 hB143 hO144
  have hB143 : Box w142 b22 53 [.string (bs ((p_t.Name ++ ([47] : Str)) ++ (p_r.Vals.getD 0 d_Str))), .string (bs ((s_l24Join (p_r.Vals.drop 1) ([44] : Str)))), .bool (false)] := hB143
  have hO144z := hO144.size
  refine dn (CW.sub (Sub.cons (d := 4) hx138 (Sub.nil _)) (CW.ret (rr rfl (.cons ⟨_, rfl, run_loadN ty53 (cs := [.string (bs ((p_t.Name ++ ([47] : Str)) ++ (p_r.Vals.getD 0 d_Str))), .string (bs ((s_l24Join (p_r.Vals.drop 1) ([44] : Str)))), .bool (false)]) rfl (hB143.cells (n := 3) rfl)⟩ .nil) ?_)))
  have hM145 : (s_l25Write p_t p_r) = ((⟨(p_t.Name ++ ([47] : Str)) ++ (p_r.Vals.getD 0 d_Str), (s_l24Join (p_r.Vals.drop 1) ([44] : Str)), false⟩ : DWrite)) := by simp only [s_l25Write, cL]
  rw [hM145]
  exact ⟨rfl, (Below.only (Ex.trans (Ex.trans (Ex.trans (Ex.trans (Ex.refl w) hE15) hE21) hE27) hE137) hO144 (by omega))⟩
theorem c_s_l25Read {A1 : Option Addr} {c1 : Nat} {A2 : Option Addr} {c2 : Nat} {w : World} (p_t : DTable) (p_w : DWrite) (h1 : RdS w (Iv 0 w.heap.size) (RF e_Str) 1 A1 p_t.Cols.length c1 p_t.Cols) (h2 : RdS w (Iv 0 w.heap.size) (RF e_Idx) 3 A2 p_t.Idxs.length c2 p_t.Idxs) (o3 : ok_Table p_t) (o4 : ok_Write p_w) : Cal Tryz.prog 56 #[.agg #[.string (bs (p_t.Name)), .slice A1 p_t.Cols.length c1, .slice A2 p_t.Idxs.length c2], .agg #[.string (bs (p_w.Key)), .string (bs (p_w.Val)), .bool (p_w.Gone)]] w fun v w' => ∃ A_1 c_1 lo_1 hi_1, v = .tuple #[.agg #[.slice A_1 (((s_l25Read p_t p_w).1.Vals).length) c_1], .bool ((s_l25Read p_t p_w).2)] ∧ OwnL w' lo_1 hi_1 9 1 (RF e_Str) A_1 (((s_l25Read p_t p_w).1.Vals).length) c_1 ((s_l25Read p_t p_w).1.Vals) ∧ ok_Row ((s_l25Read p_t p_w).1) ∧ (w.heap.size ≤ lo_1 ∧ lo_1 ≤ hi_1 ∧ hi_1 ≤ w'.heap.size) ∧ Ex w w' := by
 have hol5 : p_t.Name.length ≤ 1073741824 := o3.1
 have hol6 := o3.2.1.1
 have hol7 := o3.2.2.1
 have hol8 : p_w.Key.length ≤ 1073741824 := o4.1
 have hol9 : p_w.Val.length ≤ 1073741824 := o4.2
 refine Cal.of func56 rfl ntmps56 rfl (CW.seq (CW.region (sd rfl (yl_box rfl rfl rfl ?_))))
 intro b10 w11 hs12 hz13 hB14 hE15
 refine sd rfl (yl_box rfl rfl rfl ?_)
 intro b16 w17 hs18 hz19 hB20 hE21
 refine sd rfl (yl_alloc ty70 (cs := [.slice none 0 0]) rfl rfl ?_)
 intro b22 w23 hs24 hz25 hB26 hE27
 refine sd rfl (yl_assign rfl rfl (dn (CW.seq (CW.seq (CW.region (sd rfl (yl_fieldAddr fd53_0 rfl rfl ?_)))))))
 have q28 := Box.ex hB20 hE27
 refine sd rfl (yl_load1 ty9 rfl rfl ((q28.cell 0).trans rfl) (sd rfl (yl_slen un9 (a := p_w.Key) rfl rfl (sd rfl (yl_lss rfl rfl rfl (dn (bcase (decide ((p_w.Key.length : Int) < 3)) (fun hb29 => ?_) (fun hb29 => ?_))))))))
 ·have hb29p := dec_t hb29
  refine CW.cond_t rfl hb29 (CW.seq (CW.region (sd rfl (yl_build (cs := [.slice none 0 0]) rfl opvs_nil (by kernel_rfl) (SeqR.u rfl rfl (yl_store (vs := [.slice none 0 0]) ty70 rfl rfl rfl rfl rfl rfl hB26 (Nat.le_of_ble_eq_true rfl) ?_))))))
  intro w30 hB31 hO32
  have hB31 : Box w30 b22 70 [.slice none 0 0] := hB31
  have hO32z := hO32.size
  refine sd rfl (yl_assign rfl rfl (dn (CW.ret (tr (rr rfl (.cons ⟨_, rfl, run_loadN ty70 (cs := [.slice none 0 0]) rfl (hB31.cells (n := 1) rfl)⟩ (.cons rfl .nil)) ?_)))))
  have hM33 : (s_l25Read p_t p_w) = (((⟨[]⟩ : DRow), false)) := by simp only [s_l25Read, hb29, cL]
  rw [hM33]
  exact ⟨none, 0, w30.heap.size, w30.heap.size, rfl, (OwnL.nil _ _ _ _ _ _), (okL.nil _), (by omega), (Below.only (Ex.trans (Ex.trans (Ex.trans (Ex.refl w) hE15) hE21) hE27) hO32 (by omega))⟩
 ·have hb29p := dec_f hb29
  refine CW.cond_f rfl hb29 (CW.skip (tn (CW.seq ?_)))
  have hrf48 := rf_l1Split p_w.Val 44
  refine CW.drawsG 10 (fun _ _ => False) (fun _ _ _ => False) (vgetG [DetG (.pointer (some ⟨b16, 0 + 0, none⟩)), DetG (.string (bs (p_w.Key))), DetG (.string (bs ((p_w.Key.drop 2)))), fun G v wq => ∃ A38, v = .slice A38 1 1 ∧ (G.dn 7 = false → OwnL wq (G.fl 3) (G.fh 3) 9 1 (RF e_Str) A38 1 1 ([(p_w.Key.drop 2)] : List Str)), DetG (.pointer (some ⟨b16, 0 + 1, none⟩)), DetG (.string (bs (p_w.Val))), fun G v wq => ∃ A42 c42 lo42 hi42, v = .slice A42 ((s_l1Split p_w.Val 44).length) c42 ∧ OwnL wq lo42 hi42 9 1 (RF e_Str) A42 ((s_l1Split p_w.Val 44).length) c42 (s_l1Split p_w.Val 44) ∧ ((G.fl 6) ≤ lo42 ∧ lo42 ≤ hi42 ∧ hi42 ≤ (G.fh 6)), fun G v wq => ∃ A43 c44, v = .slice A43 ((([(p_w.Key.drop 2)] : List Str) ++ (s_l1Split p_w.Val 44)).length) c44 ∧ OwnL wq (G.fl 7) (G.fh 7) 9 1 (RF e_Str) A43 ((([(p_w.Key.drop 2)] : List Str) ++ (s_l1Split p_w.Val 44)).length) c44 (([(p_w.Key.drop 2)] : List Str) ++ (s_l1Split p_w.Val 44)), fun G v wq => ∃ A43 c44, v = .agg #[.slice A43 ((([(p_w.Key.drop 2)] : List Str) ++ (s_l1Split p_w.Val 44)).length) c44] ∧ OwnL wq (G.fl 7) (G.fh 7) 9 1 (RF e_Str) A43 ((([(p_w.Key.drop 2)] : List Str) ++ (s_l1Split p_w.Val 44)).length) c44 (([(p_w.Key.drop 2)] : List Str) ++ (s_l1Split p_w.Val 44)), fun G v wq => v = .pointer (some ⟨(G.fl 9), 0, none⟩) ∧ Box wq (G.fl 9) 70 [.slice none 0 0] ∧ (G.fl 9) < (G.fh 9)]) Tryz.follows rfl rfl rfl rfl rfl rfl (fun _ _ _ _ _ h => h) (fun _ _ _ _ _ _ _ _ _ h => h.elim) (vgetG_kept ⟨(KeptG.det _), (KeptG.det _), (KeptG.det _), (by rintro i G v w w' K hn hh hj ⟨A38, hv, h0⟩ e; have d3 : G.dn 3 = true := hj; have u3 := Gh.ufl (lo := w.heap.size) (hi := w'.heap.size) d3 hn; have t3 := Gh.ufh (lo := w.heap.size) (hi := w'.heap.size) d3 hn; exact ⟨A38, hv, (by intro hd; simp only [u3, t3]; exact OwnL.chg good_Str (h0 (Gh.off hd).2) e (fun b hb hp => by exact hp.elim))⟩), (KeptG.det _), (KeptG.det _), (by rintro i G v w w' K hn hh hj ⟨A42, c42, lo42, hi42, hv, h0, hr0⟩ e; have d6 : G.dn 6 = true := hj; have u6 := Gh.ufl (lo := w.heap.size) (hi := w'.heap.size) d6 hn; have t6 := Gh.ufh (lo := w.heap.size) (hi := w'.heap.size) d6 hn; exact ⟨A42, c42, lo42, hi42, hv, (by exact OwnL.chg good_Str h0 e (fun b hb hp => by exact hp.elim)), (by simp only [u6, t6]; exact hr0)⟩), (by rintro i G v w w' K hn hh hj ⟨A43, c44, hv, h0⟩ e; have d7 : G.dn 7 = true := hj; have u7 := Gh.ufl (lo := w.heap.size) (hi := w'.heap.size) d7 hn; have t7 := Gh.ufh (lo := w.heap.size) (hi := w'.heap.size) d7 hn; exact ⟨A43, c44, hv, (by simp only [u7, t7]; exact OwnL.chg good_Str h0 e (fun b hb hp => by exact hp.elim))⟩), (by rintro i G v w w' K hn hh hj ⟨A43, c44, hv, h0⟩ e; have d7 : G.dn 7 = true := K.cl 8 7 hj rfl; have u7 := Gh.ufl (lo := w.heap.size) (hi := w'.heap.size) d7 hn; have t7 := Gh.ufh (lo := w.heap.size) (hi := w'.heap.size) d7 hn; exact ⟨A43, c44, hv, (by simp only [u7, t7]; exact OwnL.chg good_Str h0 e (fun b hb hp => by exact hp.elim))⟩), (by rintro i G v w w' K hn hh hj ⟨hv, h0, he0⟩ e; have d9 : G.dn 9 = true := hj; have u9 := Gh.ufl (lo := w.heap.size) (hi := w'.heap.size) d9 hn; have t9 := Gh.ufh (lo := w.heap.size) (hi := w'.heap.size) d9 hn; exact ⟨(by simp only [u9, t9]; exact hv), (by simp only [u9, t9]; exact Box.chg h0 e (fun hp => by exact hp.elim)), (by simp only [u9, t9]; exact he0)⟩), trivial⟩) ⟨?_, ?_, ?_, ?_, ?_, ?_, ?_, ?_, ?_, ?_, trivial⟩ ?_
  ·intro L50 w51 G49 hgk52
   have hE53 := hgk52.st.ex.ex (fun b h => h.elim (fun h => h.elim) (fun h => h))
   have hE53z := Ex.size hE53
   exact OpR.op' rfl (Yl.sameG (yl_fieldAddr fd53_0 rfl (hgk52.old 3 _ rfl rfl) kI))
  ·intro L56 w57 G55 hgk58
   have hE59 := hgk58.st.ex.ex (fun b h => h.elim (fun h => h.elim) (fun h => h))
   have hE59z := Ex.size hE59
   obtain ⟨_, hx60, rfl⟩ := hgk58.val 0 12 rfl rfl
   exact OpR.op' rfl (Yl.sameG (yl_load1 ty9 rfl hx60 (((Box.ex q28 hE59).cell 0).trans rfl) kI))
  ·intro L63 w64 G62 hgk65
   have hE66 := hgk65.st.ex.ex (fun b h => h.elim (fun h => h.elim) (fun h => h))
   have hE66z := Ex.size hE66
   obtain ⟨_, hx67, rfl⟩ := hgk65.val 1 13 rfl rfl
   exact OpR.op' rfl (Yl.sameG (yl_sslice_lo un9 (a := p_w.Key) (l := 2) rfl hx67 rfl (by omega) kI))
  ·intro L69 w70 G68 hgk71
   have hE72 := hgk71.st.ex.ex (fun b h => h.elim (fun h => h.elim) (fun h => h))
   have hE72z := Ex.size hE72
   obtain ⟨_, hx73, rfl⟩ := hgk71.val 2 14 rfl rfl
   refine OpR.op' rfl (yl_buildSlice (cs := [.string (bs ((p_w.Key.drop 2)))]) un22 ty9 (by decide) rfl (oc hx73 oz) (by kernel_rfl) ?_)
   intro b74 w75 hs76 hz77 hB78 hE79
   have hO80 : OwnL w75 b74 (b74 + 1) 9 1 (RF e_Str) (some ⟨b74, 0, none⟩) 1 1 ([(p_w.Key.drop 2)] : List Str) := OwnL.of_box (S := fun _ => False) hB78 (Nat.le_refl _) (Nat.lt_succ_self _) (EncL.cons (c := [.string (bs ((p_w.Key.drop 2)))]) rfl rfl EncL.nil) (Nat.le_of_ble_eq_true rfl) (fun h => h) (fun _ h => False.elim h)
   exact ⟨Chg.of_ex hE79, (some ⟨b74, 0, none⟩), rfl, fun _ => OwnL.more (lo' := w70.heap.size) (hi' := w75.heap.size) hO80 (by omega) (by omega)⟩
  ·intro L82 w83 G81 hgk84
   have hE85 := hgk84.st.ex.ex (fun b h => h.elim (fun h => h.elim) (fun h => h))
   have hE85z := Ex.size hE85
   exact OpR.op' rfl (Yl.sameG (yl_fieldAddr fd53_1 rfl (hgk84.old 3 _ rfl rfl) kI))
  ·intro L88 w89 G87 hgk90
   have hE91 := hgk90.st.ex.ex (fun b h => h.elim (fun h => h.elim) (fun h => h))
   have hE91z := Ex.size hE91
   obtain ⟨_, hx92, rfl⟩ := hgk90.val 4 16 rfl rfl
   exact OpR.op' rfl (Yl.sameG (yl_load1 ty9 rfl hx92 (((Box.ex q28 hE91).cell 1).trans rfl) kI))
  ·intro L95 w96 G94 hgk97
   have hE98 := hgk97.st.ex.ex (fun b h => h.elim (fun h => h.elim) (fun h => h))
   have hE98z := Ex.size hE98
   obtain ⟨_, hx99, rfl⟩ := hgk97.val 5 17 rfl rfl
   refine OpR.op' rfl (yl_call en57 rfl (oc hx99 (oc rfl oz)) (Cal.mono (c_s_l1Split p_w.Val 44 o4.2) ?_))
   rintro v102 w100 ⟨A101, c101, lo101, hi101, rfl, h101, hrn104, hE103⟩
   exact ⟨Chg.of_ex hE103, A101, c101, lo101, hi101, rfl, h101, hrn104⟩
  ·intro L106 w107 G105 hgk108
   have hE109 := hgk108.st.ex.ex (fun b h => h.elim (fun h => h.elim) (fun h => h))
   have hE109z := Ex.size hE109
   obtain ⟨_, hx110, A38_111, rfl, h112⟩ := hgk108.val 3 15 rfl rfl
   have h112 := h112 hgk108.new
   obtain ⟨_, hx113, A42_114, c42_115, lo42_116, hi42_117, rfl, h118, hrn119⟩ := hgk108.val 6 18 rfl rfl
   have hr120 := hgk108.st.rng 3 (hgk108.has 3 rfl)
   have hr121 := hgk108.st.rng 6 (hgk108.has 6 rfl)
   have hsp122 := hgk108.st.sep 3 6 (hgk108.has 3 rfl) (hgk108.has 6 rfl) rfl
   have hol123 : (s_l1Split p_w.Val 44).length ≤ 2147483648 := (okL_l1Split o4.2).1
   refine OpR.op' rfl (yl_appendF (lo := w107.heap.size) (xs := ([(p_w.Key.drop 2)] : List Str)) (ys := (s_l1Split p_w.Val 44)) good_Str un22 ty9 rfl (Nat.le_of_ble_eq_true rfl) rfl hx110 hx113 (by first | omega | (simp only [List.length_append, List.length_cons, List.length_nil, List.length_take, List.length_drop, List.length_replicate, List.length_set, toS_length]; omega)) (OwnL.rd good_Str h112) (OwnL.rd good_Str h118) (by first | omega | (simp only [List.length_append, List.length_cons, List.length_nil, List.length_take, List.length_drop, List.length_replicate, List.length_set, toS_length]; omega)) (by first | omega | (simp only [List.length_append, List.length_cons, List.length_nil, List.length_take, List.length_drop, List.length_replicate, List.length_set, toS_length]; omega)) (by first | omega | (simp only [List.length_append, List.length_cons, List.length_nil, List.length_take, List.length_drop, List.length_replicate, List.length_set, toS_length]; omega)) (Nat.le_refl _) (fun _ _ h => h) (fun _ _ h => h) ?_)
   intro A126 c127 w128 hO129 hE130 hrg131
   have hE130z := hE130.size
   exact ⟨Chg.of_ex hE130, A126, c127, rfl, OwnL.more (lo' := w107.heap.size) (hi' := w128.heap.size) hO129 (by omega) (by omega)⟩
  ·intro L133 w134 G132 hgk135
   have hE136 := hgk135.st.ex.ex (fun b h => h.elim (fun h => h.elim) (fun h => h))
   have hE136z := Ex.size hE136
   obtain ⟨_, hx137, A43_138, c44_139, rfl, h140⟩ := hgk135.val 7 19 rfl rfl
   have hr141 := hgk135.st.rng 7 (hgk135.has 7 rfl)
   exact OpR.op' rfl (Yl.sameG (yl_build (cs := [.slice A43_138 ((([(p_w.Key.drop 2)] : List Str) ++ (s_l1Split p_w.Val 44)).length) c44_139]) rfl (oc hx137 oz) (by kernel_rfl) ⟨fun _ _ => ⟨A43_138, c44_139, rfl, (OwnL.more (lo' := (G132.fl 7)) (hi' := (G132.fh 7)) h140 (by omega) (by omega))⟩, rfl⟩))
  ·intro L143 w144 G142 hgk145
   have hE146 := hgk145.st.ex.ex (fun b h => h.elim (fun h => h.elim) (fun h => h))
   have hE146z := Ex.size hE146
   refine OpR.op' rfl (yl_alloc ty70 (cs := [.slice none 0 0]) rfl rfl ?_)
   intro b147 w148 hs149 hz150 hB151 hE152
   subst hs149
   exact ⟨Chg.of_ex hE152, rfl, hB151, by rw [Gh.sfl, Gh.sfh]; omega⟩
  ·intro G153 L154 w155 hgp156
   have hE157 := hgp156.st.ex.ex (fun b h => h.elim (fun h => h.elim) (fun h => h))
   have hE157z := Ex.size hE157
   obtain ⟨_, hx161, A42_162, c42_163, lo42_164, hi42_165, rfl, h166, hrn167⟩ := hgp156.val 6 18 rfl rfl
   obtain ⟨_, hx168, A43_169, c44_170, rfl, h171⟩ := hgp156.val 7 19 rfl rfl
   obtain ⟨_, hx172, A43_173, c44_174, rfl, h175⟩ := hgp156.val 8 20 rfl rfl
   obtain ⟨_, hx176, rfl, h177, he178⟩ := hgp156.val 9 6 rfl rfl
   have hr179 := hgp156.st.rng 6 (hgp156.has 6 rfl)
   have hr180 := hgp156.st.rng 7 (hgp156.has 7 rfl)
   have hr181 := hgp156.st.rng 8 (hgp156.has 8 rfl)
   have hr182 := hgp156.st.rng 9 (hgp156.has 9 rfl)
   have hsp183 := hgp156.st.ord 7 6 (hgp156.has 7 rfl) rfl
   have hsp184 := hgp156.st.ord 8 6 (hgp156.has 8 rfl) rfl
   have hsp185 := hgp156.st.sep 6 9 (hgp156.has 6 rfl) (hgp156.has 9 rfl) rfl
   have hsp186 := hgp156.st.ord 8 7 (hgp156.has 8 rfl) rfl
   have hsp187 := hgp156.st.sep 7 9 (hgp156.has 7 rfl) (hgp156.has 9 rfl) rfl
   have hsp188 := hgp156.st.sep 8 9 (hgp156.has 8 rfl) (hgp156.has 9 rfl) rfl
   refine SeqR.u rfl rfl (yl_store (vs := [.slice A43_173 ((([(p_w.Key.drop 2)] : List Str) ++ (s_l1Split p_w.Val 44)).length) c44_174]) ty70 rfl hx176 hx172 rfl rfl rfl h177 (Nat.le_of_ble_eq_true rfl) ?_)
   intro w189 hB190 hO191
   have hB190 : Box w189 (G153.fl 9) 70 [.slice A43_173 ((([(p_w.Key.drop 2)] : List Str) ++ (s_l1Split p_w.Val 44)).length) c44_174] := hB190
   have hO191z := hO191.size
   refine dn (CW.sub (Sub.cons (d := 2) (hgp156.old 2 _ rfl rfl) (Sub.cons (d := 3) (hgp156.old 3 _ rfl rfl) (Sub.cons (d := 4) (hgp156.old 4 _ rfl rfl) (Sub.cons (d := 6) hx176 (Sub.nil _))))) (CW.seq ?_))
   have hol208 : (s_l1Split p_w.Val 44).length ≤ 2147483648 := (okL_l1Split o4.2).1
   refine bcase (s_l25Good p_t (⟨(([(p_w.Key.drop 2)] : List Str) ++ (s_l1Split p_w.Val 44))⟩ : DRow)) (fun hb210 => ?_) (fun hb210 => ?_)
   ·obtain ⟨hb210p0, hb210p1⟩ := f_s_l25Good hb210
    have q214 := Box.only (Box.ex (Box.ex (Box.ex hB14 hE21) hE27) hE157) hO191 (by omega)
    have q219 := RdS.only good_Str (RdS.ex good_Str (RdS.ex good_Str (RdS.ex good_Str (RdS.ex good_Str h1 hE15) hE21) hE27) hE157) hO191 (by simp only [Iv]; omega)
    have q224 := RdS.only good_Idx (RdS.ex good_Idx (RdS.ex good_Idx (RdS.ex good_Idx (RdS.ex good_Idx h2 hE15) hE21) hE27) hE157) hO191 (by simp only [Iv]; omega)
    have q226 := OwnL.only good_Str h175 hO191 (by omega)
    have hol227 : (s_l1Split p_w.Val 44).length ≤ 2147483648 := (okL_l1Split o4.2).1
    have hol230 : (s_l1Split p_w.Val 44).length ≤ 2147483648 := (okL_l1Split o4.2).1
    have q233 := Box.only (Box.ex q28 hE157) hO191 (by omega)
    refine CW.drawsG 13 (fun G b => G.dn 11 = true ∧ InR [(b22, b22 + 1)] b) (fun i G b => (i = 11 ∧ b22 ≤ b ∧ b < b22 + 1)) (vgetG [DetG (.agg #[.slice A43_173 ((([(p_w.Key.drop 2)] : List Str) ++ (s_l1Split p_w.Val 44)).length) c44_174]), DetG (.agg #[.string (bs (p_t.Name)), .slice A1 p_t.Cols.length c1, .slice A2 p_t.Idxs.length c2]), DetG (.agg #[.slice A43_173 ((([(p_w.Key.drop 2)] : List Str) ++ (s_l1Split p_w.Val 44)).length) c44_174]), DetG (.bool ((s_l25Good p_t (⟨(([(p_w.Key.drop 2)] : List Str) ++ (s_l1Split p_w.Val 44))⟩ : DRow)))), DetG (.bool ((s_l25Good p_t (⟨(([(p_w.Key.drop 2)] : List Str) ++ (s_l1Split p_w.Val 44))⟩ : DRow)))), DetG (.agg #[.string (bs (p_t.Name)), .slice A1 p_t.Cols.length c1, .slice A2 p_t.Idxs.length c2]), DetG (.agg #[.slice A43_173 ((([(p_w.Key.drop 2)] : List Str) ++ (s_l1Split p_w.Val 44)).length) c44_174]), DetG (.agg #[.string (bs ((s_l25Write p_t (⟨(([(p_w.Key.drop 2)] : List Str) ++ (s_l1Split p_w.Val 44))⟩ : DRow)).Key)), .string (bs ((s_l25Write p_t (⟨(([(p_w.Key.drop 2)] : List Str) ++ (s_l1Split p_w.Val 44))⟩ : DRow)).Val)), .bool ((s_l25Write p_t (⟨(([(p_w.Key.drop 2)] : List Str) ++ (s_l1Split p_w.Val 44))⟩ : DRow)).Gone)]), DetG (.agg #[.string (bs (p_w.Key)), .string (bs (p_w.Val)), .bool (p_w.Gone)]), DetG (.bool (((((s_l25Write p_t (⟨(([(p_w.Key.drop 2)] : List Str) ++ (s_l1Split p_w.Val 44))⟩ : DRow)).Key) == p_w.Key) && ((((s_l25Write p_t (⟨(([(p_w.Key.drop 2)] : List Str) ++ (s_l1Split p_w.Val 44))⟩ : DRow)).Val) == p_w.Val) && (((s_l25Write p_t (⟨(([(p_w.Key.drop 2)] : List Str) ++ (s_l1Split p_w.Val 44))⟩ : DRow)).Gone) == p_w.Gone))))), DetG (.bool (((((s_l25Write p_t (⟨(([(p_w.Key.drop 2)] : List Str) ++ (s_l1Split p_w.Val 44))⟩ : DRow)).Key) == p_w.Key) && ((((s_l25Write p_t (⟨(([(p_w.Key.drop 2)] : List Str) ++ (s_l1Split p_w.Val 44))⟩ : DRow)).Val) == p_w.Val) && (((s_l25Write p_t (⟨(([(p_w.Key.drop 2)] : List Str) ++ (s_l1Split p_w.Val 44))⟩ : DRow)).Gone) == p_w.Gone))))), fun G v wq => Box wq b22 70 [.slice A43_173 ((([(p_w.Key.drop 2)] : List Str) ++ (s_l1Split p_w.Val 44)).length) c44_174], DetG (.bool (((((s_l25Write p_t (⟨(([(p_w.Key.drop 2)] : List Str) ++ (s_l1Split p_w.Val 44))⟩ : DRow)).Key) == p_w.Key) && ((((s_l25Write p_t (⟨(([(p_w.Key.drop 2)] : List Str) ++ (s_l1Split p_w.Val 44))⟩ : DRow)).Val) == p_w.Val) && (((s_l25Write p_t (⟨(([(p_w.Key.drop 2)] : List Str) ++ (s_l1Split p_w.Val 44))⟩ : DRow)).Gone) == p_w.Gone)))))]) Tryz.follows rfl rfl rfl rfl rfl rfl (fun _ _ _ _ _ h => ⟨Gh.udn h.1, h.2⟩) (fun i G w lo hi b K hn hh hp => by exact (match hp with | ⟨e, q1, q2⟩ => by subst e; exact .inl ⟨Gh.sdn, .inl ⟨q1, q2⟩⟩)) (vgetG_kept ⟨(KeptG.det _), (KeptG.det _), (KeptG.det _), (KeptG.det _), (KeptG.det _), (KeptG.det _), (KeptG.det _), (KeptG.det _), (KeptG.det _), (KeptG.det _), (KeptG.det _), (by rintro i G v w w' K hn hh hj h0 e; exact (by exact Box.chg h0 e (fun hp => by obtain ⟨rfl, q1, q2⟩ := hp; rw [hj] at hn; cases hn))), (KeptG.det _), trivial⟩) ⟨?_, ?_, ?_, ?_, ?_, ?_, ?_, ?_, ?_, ?_, ?_, ?_, ?_, trivial⟩ ?_
    ·intro L236 w237 G235 hgk238
     have hE239 : Chg (fun b => InR [(b22, b22 + 1)] b ∨ w189.heap.size ≤ b) w189 w237 := hgk238.st.ex.imp (fun b _ h => h.imp (fun h => h.2) (fun h => h))
     have hE239z := Chg.size hE239
     exact OpR.op' rfl (Yl.sameG (yl_loadN ty70 rfl (hgk238.old 6 _ rfl rfl) ((Box.chg hB190 hE239 (by have := Box.lt hB190; simp only [InR, or_false]; omega)).cells (n := 1) rfl) rfl kI))
    ·intro L243 w244 G242 hgk245
     have hE246 : Chg (fun b => InR [(b22, b22 + 1)] b ∨ w189.heap.size ≤ b) w189 w244 := hgk245.st.ex.imp (fun b _ h => h.imp (fun h => h.2) (fun h => h))
     have hE246z := Chg.size hE246
     exact OpR.op' rfl (Yl.sameG (yl_loadN ty33 rfl (hgk245.old 2 _ rfl rfl) ((Box.chg q214 hE246 (by have := Box.lt q214; simp only [InR, or_false]; omega)).cells (n := 3) rfl) rfl kI))
    ·intro L250 w251 G249 hgk252
     have hE253 : Chg (fun b => InR [(b22, b22 + 1)] b ∨ w189.heap.size ≤ b) w189 w251 := hgk252.st.ex.imp (fun b _ h => h.imp (fun h => h.2) (fun h => h))
     have hE253z := Chg.size hE253
     exact OpR.op' rfl (Yl.sameG (yl_loadN ty70 rfl (hgk252.old 6 _ rfl rfl) ((Box.chg hB190 hE253 (by have := Box.lt hB190; simp only [InR, or_false]; omega)).cells (n := 1) rfl) rfl kI))
    ·intro L257 w258 G256 hgk259
     have hE260 : Chg (fun b => InR [(b22, b22 + 1)] b ∨ w189.heap.size ≤ b) w189 w258 := hgk259.st.ex.imp (fun b _ h => h.imp (fun h => h.2) (fun h => h))
     have hE260z := Chg.size hE260
     obtain ⟨_, hx261, rfl⟩ := hgk259.val 1 22 rfl rfl
     obtain ⟨_, hx262, rfl⟩ := hgk259.val 2 23 rfl rfl
     have hol267 : (s_l1Split p_w.Val 44).length ≤ 2147483648 := (okL_l1Split o4.2).1
     refine OpR.op' rfl (yl_call en72 rfl (oc hx261 (oc hx262 oz)) (Cal.mono (c_s_l25Good p_t (⟨(([(p_w.Key.drop 2)] : List Str) ++ (s_l1Split p_w.Val 44))⟩ : DRow) (RdS.up (RdS.chg good_Str q219 hE260 (fun k hl hk => by simp only [InR, or_false, Iv, Ge] at hk ⊢; omega)) good_Str) (RdS.up (RdS.chg good_Idx q224 hE260 (fun k hl hk => by simp only [InR, or_false, Iv, Ge] at hk ⊢; omega)) good_Idx) (RdS.up (OwnL.rd good_Str (OwnL.chg good_Str q226 hE260 (fun k hl hk => by simp only [InR, or_false] at hk; omega))) good_Str) o3 (okL.mk (xs := (([(p_w.Key.drop 2)] : List Str) ++ (s_l1Split p_w.Val 44))) (by first | omega | (simp only [List.length_append, List.length_cons, List.length_nil, List.length_take, List.length_drop, List.length_replicate, List.length_set, toS_length]; omega)) (okE.append ((okL.mk (Nat.le_of_ble_eq_true rfl) (okE.cons (okS.drop o4.1 _) okE.nil))).2 ((okL_l1Split o4.2)).2))) ?_))
     rintro v269 w268 ⟨rfl, hE270⟩
     exact ⟨Chg.of_ex hE270, rfl⟩
    ·intro L272 w273 G271 hgk274
     have hE275 : Chg (fun b => InR [(b22, b22 + 1)] b ∨ w189.heap.size ≤ b) w189 w273 := hgk274.st.ex.imp (fun b _ h => h.imp (fun h => h.2) (fun h => h))
     have hE275z := Chg.size hE275
     obtain ⟨_, hx276, rfl⟩ := hgk274.val 3 24 rfl rfl
     exact OpR.op' rfl (Yl.sameG (yl_move rfl hx276 kI))
    ·intro L278 w279 G277 hgk280
     have hE281 : Chg (fun b => InR [(b22, b22 + 1)] b ∨ w189.heap.size ≤ b) w189 w279 := hgk280.st.ex.imp (fun b _ h => h.imp (fun h => h.2) (fun h => h))
     have hE281z := Chg.size hE281
     obtain ⟨_, hx282, rfl⟩ := hgk280.val 4 25 rfl rfl
     exact OpR.want rfl rfl hx282 hb210 (Yl.sameG (yl_loadN ty33 rfl (hgk280.old 2 _ rfl rfl) ((Box.chg q214 hE281 (by have := Box.lt q214; simp only [InR, or_false]; omega)).cells (n := 3) rfl) rfl kI))
    ·intro L286 w287 G285 hgk288
     have hE289 : Chg (fun b => InR [(b22, b22 + 1)] b ∨ w189.heap.size ≤ b) w189 w287 := hgk288.st.ex.imp (fun b _ h => h.imp (fun h => h.2) (fun h => h))
     have hE289z := Chg.size hE289
     obtain ⟨_, hx290, rfl⟩ := hgk288.val 4 25 rfl rfl
     exact OpR.want rfl rfl hx290 hb210 (Yl.sameG (yl_loadN ty70 rfl (hgk288.old 6 _ rfl rfl) ((Box.chg hB190 hE289 (by have := Box.lt hB190; simp only [InR, or_false]; omega)).cells (n := 1) rfl) rfl kI))
    ·intro L294 w295 G293 hgk296
     have hE297 : Chg (fun b => InR [(b22, b22 + 1)] b ∨ w189.heap.size ≤ b) w189 w295 := hgk296.st.ex.imp (fun b _ h => h.imp (fun h => h.2) (fun h => h))
     have hE297z := Chg.size hE297
     obtain ⟨_, hx298, rfl⟩ := hgk296.val 4 25 rfl rfl
     obtain ⟨_, hx299, rfl⟩ := hgk296.val 5 26 rfl rfl
     obtain ⟨_, hx300, rfl⟩ := hgk296.val 6 27 rfl rfl
     have hol305 : (s_l1Split p_w.Val 44).length ≤ 2147483648 := (okL_l1Split o4.2).1
     refine OpR.want rfl rfl hx298 hb210 (yl_call en73 rfl (oc hx299 (oc hx300 oz)) (Cal.mono (c_s_l25Write p_t (⟨(([(p_w.Key.drop 2)] : List Str) ++ (s_l1Split p_w.Val 44))⟩ : DRow) (RdS.up (RdS.chg good_Str q219 hE297 (fun k hl hk => by simp only [InR, or_false, Iv, Ge] at hk ⊢; omega)) good_Str) (RdS.up (RdS.chg good_Idx q224 hE297 (fun k hl hk => by simp only [InR, or_false, Iv, Ge] at hk ⊢; omega)) good_Idx) (RdS.up (OwnL.rd good_Str (OwnL.chg good_Str q226 hE297 (fun k hl hk => by simp only [InR, or_false] at hk; omega))) good_Str) o3 (okL.mk (xs := (([(p_w.Key.drop 2)] : List Str) ++ (s_l1Split p_w.Val 44))) (by first | omega | (simp only [List.length_append, List.length_cons, List.length_nil, List.length_take, List.length_drop, List.length_replicate, List.length_set, toS_length]; omega)) (okE.append ((okL.mk (Nat.le_of_ble_eq_true rfl) (okE.cons (okS.drop o4.1 _) okE.nil))).2 ((okL_l1Split o4.2)).2)) (by first | omega | assumption | (simp only [wI] at *; omega) | (simp only [List.length_append, List.length_cons, List.length_nil]; omega))) ?_))
     rintro v307 w306 ⟨rfl, hE308⟩
     exact ⟨Chg.of_ex hE308, rfl⟩
    ·intro L310 w311 G309 hgk312
     have hE313 : Chg (fun b => InR [(b22, b22 + 1)] b ∨ w189.heap.size ≤ b) w189 w311 := hgk312.st.ex.imp (fun b _ h => h.imp (fun h => h.2) (fun h => h))
     have hE313z := Chg.size hE313
     obtain ⟨_, hx314, rfl⟩ := hgk312.val 4 25 rfl rfl
     exact OpR.want rfl rfl hx314 hb210 (Yl.sameG (yl_loadN ty53 rfl (hgk312.old 3 _ rfl rfl) ((Box.chg q233 hE313 (by have := Box.lt q233; simp only [InR, or_false]; omega)).cells (n := 3) rfl) rfl kI))
    ·intro L318 w319 G317 hgk320
     have hE321 : Chg (fun b => InR [(b22, b22 + 1)] b ∨ w189.heap.size ≤ b) w189 w319 := hgk320.st.ex.imp (fun b _ h => h.imp (fun h => h.2) (fun h => h))
     have hE321z := Chg.size hE321
     obtain ⟨_, hx322, rfl⟩ := hgk320.val 4 25 rfl rfl
     obtain ⟨_, hx323, rfl⟩ := hgk320.val 7 28 rfl rfl
     obtain ⟨_, hx324, rfl⟩ := hgk320.val 8 29 rfl rfl
     exact OpR.want rfl rfl hx322 hb210 (Yl.sameG (yl_aeql (xs := [.string (bs ((s_l25Write p_t (⟨(([(p_w.Key.drop 2)] : List Str) ++ (s_l1Split p_w.Val 44))⟩ : DRow)).Key)), .string (bs ((s_l25Write p_t (⟨(([(p_w.Key.drop 2)] : List Str) ++ (s_l1Split p_w.Val 44))⟩ : DRow)).Val)), .bool ((s_l25Write p_t (⟨(([(p_w.Key.drop 2)] : List Str) ++ (s_l1Split p_w.Val 44))⟩ : DRow)).Gone)]) (ys := [.string (bs (p_w.Key)), .string (bs (p_w.Val)), .bool (p_w.Gone)]) Tryz.ae53 rfl hx323 hx324 kI))
    ·intro L326 w327 G325 hgk328
     have hE329 : Chg (fun b => InR [(b22, b22 + 1)] b ∨ w189.heap.size ≤ b) w189 w327 := hgk328.st.ex.imp (fun b _ h => h.imp (fun h => h.2) (fun h => h))
     have hE329z := Chg.size hE329
     obtain ⟨_, hx330, rfl⟩ := hgk328.val 9 30 rfl rfl
     obtain ⟨_, hx331, rfl⟩ := hgk328.val 4 25 rfl rfl
     exact OpR.op' rfl (Yl.sameG (yl_pick_t rfl hx331 hb210 hx330 kI))
    ·intro L333 w334 G332 hgk335
     have hE336 := hgk335.st.ex.ex (fun b h => h.elim (fun h => (Bool.false_ne_true (hgk335.new.symm.trans h.1)).elim) (fun h => h))
     have hE336z := Ex.size hE336
     obtain ⟨_, hx338, rfl⟩ := hgk335.val 0 21 rfl rfl
     refine OpR.op' rfl (yl_store (vs := [.slice A43_173 ((([(p_w.Key.drop 2)] : List Str) ++ (s_l1Split p_w.Val 44)).length) c44_174]) ty70 rfl (hgk335.old 4 _ rfl rfl) hx338 rfl rfl rfl (Box.ex (Box.only (Box.ex hB26 hE157) hO191 (by omega)) hE336) (Nat.le_of_ble_eq_true rfl) ?_)
     intro w342 hB343 hO344
     have hO344z := hO344.size
     exact ⟨Chg.of_only hO344 (⟨rfl, Nat.le_refl _, by omega⟩), hB343⟩
    ·intro L346 w347 G345 hgk348
     have hE349 : Chg (fun b => InR [(b22, b22 + 1)] b ∨ w189.heap.size ≤ b) w189 w347 := hgk348.st.ex.imp (fun b _ h => h.imp (fun h => h.2) (fun h => h))
     have hE349z := Chg.size hE349
     obtain ⟨_, hx350, rfl⟩ := hgk348.val 10 31 rfl rfl
     exact OpR.op' rfl (Yl.sameG (yl_assign rfl hx350 kI))
    ·intro G351 L352 w353 hgp354
     have hE355 : Chg (fun b => InR [(b22, b22 + 1)] b ∨ w189.heap.size ≤ b) w189 w353 := hgp354.st.ex.imp (fun b _ h => h.imp (fun h => h.2) (fun h => h))
     have hE355z := Chg.size hE355
     obtain ⟨_, h357⟩ := hgp354.fact 11 rfl
     obtain ⟨_, hx358, rfl⟩ := hgp354.val 12 5 rfl rfl
     have hr359 := hgp354.st.rng 11 (hgp354.has 11 rfl)
     refine dn (CW.sub (Sub.cons (d := 4) (hgp354.old 4 _ rfl rfl) (Sub.cons (d := 5) hx358 (Sub.nil _))) (CW.ret (rr rfl (.cons ⟨_, rfl, run_loadN ty70 (cs := [.slice A43_173 ((([(p_w.Key.drop 2)] : List Str) ++ (s_l1Split p_w.Val 44)).length) c44_174]) rfl (h357.cells (n := 1) rfl)⟩ (.cons rfl .nil)) ?_)))
     have hM360 : (s_l25Read p_t p_w) = (((⟨(([(p_w.Key.drop 2)] : List Str) ++ (s_l1Split p_w.Val 44))⟩ : DRow), ((((s_l25Write p_t (⟨(([(p_w.Key.drop 2)] : List Str) ++ (s_l1Split p_w.Val 44))⟩ : DRow)).Key) == p_w.Key) && ((((s_l25Write p_t (⟨(([(p_w.Key.drop 2)] : List Str) ++ (s_l1Split p_w.Val 44))⟩ : DRow)).Val) == p_w.Val) && (((s_l25Write p_t (⟨(([(p_w.Key.drop 2)] : List Str) ++ (s_l1Split p_w.Val 44))⟩ : DRow)).Gone) == p_w.Gone))))) := by simp only [s_l25Read, hb29, hb210, cL]
     have hol362 : (s_l1Split p_w.Val 44).length ≤ 2147483648 := (okL_l1Split o4.2).1
     rw [hM360]
     exact ⟨A43_173, c44_174, (G153.fl 7), (G153.fh 7), rfl, (OwnL.chg good_Str q226 hE355 (fun k hl hk => by simp only [InR, or_false] at hk; omega)), (okL.mk (xs := (([(p_w.Key.drop 2)] : List Str) ++ (s_l1Split p_w.Val 44))) (by first | omega | (simp only [List.length_append, List.length_cons, List.length_nil, List.length_take, List.length_drop, List.length_replicate, List.length_set, toS_length]; omega)) (okE.append ((okL.mk (Nat.le_of_ble_eq_true rfl) (okE.cons (okS.drop o4.1 _) okE.nil))).2 ((okL_l1Split o4.2)).2)), (by omega), (Ex.chg (Below.only (Ex.trans (Ex.trans (Ex.trans (Ex.trans (Ex.refl w) hE15) hE21) hE27) hE157) hO191 (by omega)) hE355 (fun k hk => by simp only [InR, or_false] at hk; omega))⟩
   ·have q372 := Box.only (Box.ex (Box.ex (Box.ex hB14 hE21) hE27) hE157) hO191 (by omega)
    have q384 := OwnL.only good_Str h175 hO191 (by omega)
    have hol385 : (s_l1Split p_w.Val 44).length ≤ 2147483648 := (okL_l1Split o4.2).1
    refine CW.drawsG 13 (fun G b => G.dn 11 = true ∧ InR [(b22, b22 + 1)] b) (fun i G b => (i = 11 ∧ b22 ≤ b ∧ b < b22 + 1)) (vgetG [DetG (.agg #[.slice A43_173 ((([(p_w.Key.drop 2)] : List Str) ++ (s_l1Split p_w.Val 44)).length) c44_174]), DetG (.agg #[.string (bs (p_t.Name)), .slice A1 p_t.Cols.length c1, .slice A2 p_t.Idxs.length c2]), DetG (.agg #[.slice A43_173 ((([(p_w.Key.drop 2)] : List Str) ++ (s_l1Split p_w.Val 44)).length) c44_174]), DetG (.bool ((s_l25Good p_t (⟨(([(p_w.Key.drop 2)] : List Str) ++ (s_l1Split p_w.Val 44))⟩ : DRow)))), DetG (.bool ((s_l25Good p_t (⟨(([(p_w.Key.drop 2)] : List Str) ++ (s_l1Split p_w.Val 44))⟩ : DRow)))), DetG (undef), DetG (undef), DetG (undef), DetG (undef), DetG (undef), DetG (.bool (false)), fun G v wq => Box wq b22 70 [.slice A43_173 ((([(p_w.Key.drop 2)] : List Str) ++ (s_l1Split p_w.Val 44)).length) c44_174], DetG (.bool (false))]) Tryz.follows rfl rfl rfl rfl rfl rfl (fun _ _ _ _ _ h => ⟨Gh.udn h.1, h.2⟩) (fun i G w lo hi b K hn hh hp => by exact (match hp with | ⟨e, q1, q2⟩ => by subst e; exact .inl ⟨Gh.sdn, .inl ⟨q1, q2⟩⟩)) (vgetG_kept ⟨(KeptG.det _), (KeptG.det _), (KeptG.det _), (KeptG.det _), (KeptG.det _), (KeptG.det _), (KeptG.det _), (KeptG.det _), (KeptG.det _), (KeptG.det _), (KeptG.det _), (by rintro i G v w w' K hn hh hj h0 e; exact (by exact Box.chg h0 e (fun hp => by obtain ⟨rfl, q1, q2⟩ := hp; rw [hj] at hn; cases hn))), (KeptG.det _), trivial⟩) ⟨?_, ?_, ?_, ?_, ?_, ?_, ?_, ?_, ?_, ?_, ?_, ?_, ?_, trivial⟩ ?_
    ·intro L389 w390 G388 hgk391
     have hE392 : Chg (fun b => InR [(b22, b22 + 1)] b ∨ w189.heap.size ≤ b) w189 w390 := hgk391.st.ex.imp (fun b _ h => h.imp (fun h => h.2) (fun h => h))
     have hE392z := Chg.size hE392
     exact OpR.op' rfl (Yl.sameG (yl_loadN ty70 rfl (hgk391.old 6 _ rfl rfl) ((Box.chg hB190 hE392 (by have := Box.lt hB190; simp only [InR, or_false]; omega)).cells (n := 1) rfl) rfl kI))
    ·intro L396 w397 G395 hgk398
     have hE399 : Chg (fun b => InR [(b22, b22 + 1)] b ∨ w189.heap.size ≤ b) w189 w397 := hgk398.st.ex.imp (fun b _ h => h.imp (fun h => h.2) (fun h => h))
     have hE399z := Chg.size hE399
     exact OpR.op' rfl (Yl.sameG (yl_loadN ty33 rfl (hgk398.old 2 _ rfl rfl) ((Box.chg q372 hE399 (by have := Box.lt q372; simp only [InR, or_false]; omega)).cells (n := 3) rfl) rfl kI))
    ·intro L403 w404 G402 hgk405
     have hE406 : Chg (fun b => InR [(b22, b22 + 1)] b ∨ w189.heap.size ≤ b) w189 w404 := hgk405.st.ex.imp (fun b _ h => h.imp (fun h => h.2) (fun h => h))
     have hE406z := Chg.size hE406
     exact OpR.op' rfl (Yl.sameG (yl_loadN ty70 rfl (hgk405.old 6 _ rfl rfl) ((Box.chg hB190 hE406 (by have := Box.lt hB190; simp only [InR, or_false]; omega)).cells (n := 1) rfl) rfl kI))
    ·intro L410 w411 G409 hgk412
     have hE413 : Chg (fun b => InR [(b22, b22 + 1)] b ∨ w189.heap.size ≤ b) w189 w411 := hgk412.st.ex.imp (fun b _ h => h.imp (fun h => h.2) (fun h => h))
     have hE413z := Chg.size hE413
     obtain ⟨_, hx414, rfl⟩ := hgk412.val 1 22 rfl rfl
     obtain ⟨_, hx415, rfl⟩ := hgk412.val 2 23 rfl rfl
     have hol420 : (s_l1Split p_w.Val 44).length ≤ 2147483648 := (okL_l1Split o4.2).1
     refine OpR.op' rfl (yl_call en72 rfl (oc hx414 (oc hx415 oz)) (Cal.mono (c_s_l25Good p_t (⟨(([(p_w.Key.drop 2)] : List Str) ++ (s_l1Split p_w.Val 44))⟩ : DRow) (RdS.up (RdS.chg good_Str (RdS.only good_Str (RdS.ex good_Str (RdS.ex good_Str (RdS.ex good_Str (RdS.ex good_Str h1 hE15) hE21) hE27) hE157) hO191 (by simp only [Iv]; omega)) hE413 (fun k hl hk => by simp only [InR, or_false, Iv, Ge] at hk ⊢; omega)) good_Str) (RdS.up (RdS.chg good_Idx (RdS.only good_Idx (RdS.ex good_Idx (RdS.ex good_Idx (RdS.ex good_Idx (RdS.ex good_Idx h2 hE15) hE21) hE27) hE157) hO191 (by simp only [Iv]; omega)) hE413 (fun k hl hk => by simp only [InR, or_false, Iv, Ge] at hk ⊢; omega)) good_Idx) (RdS.up (OwnL.rd good_Str (OwnL.chg good_Str q384 hE413 (fun k hl hk => by simp only [InR, or_false] at hk; omega))) good_Str) o3 (okL.mk (xs := (([(p_w.Key.drop 2)] : List Str) ++ (s_l1Split p_w.Val 44))) (by first | omega | (simp only [List.length_append, List.length_cons, List.length_nil, List.length_take, List.length_drop, List.length_replicate, List.length_set, toS_length]; omega)) (okE.append ((okL.mk (Nat.le_of_ble_eq_true rfl) (okE.cons (okS.drop o4.1 _) okE.nil))).2 ((okL_l1Split o4.2)).2))) ?_))
     rintro v422 w421 ⟨rfl, hE423⟩
     exact ⟨Chg.of_ex hE423, rfl⟩
    ·intro L425 w426 G424 hgk427
     have hE428 : Chg (fun b => InR [(b22, b22 + 1)] b ∨ w189.heap.size ≤ b) w189 w426 := hgk427.st.ex.imp (fun b _ h => h.imp (fun h => h.2) (fun h => h))
     have hE428z := Chg.size hE428
     obtain ⟨_, hx429, rfl⟩ := hgk427.val 3 24 rfl rfl
     exact OpR.op' rfl (Yl.sameG (yl_move rfl hx429 kI))
    ·intro L431 w432 G430 hgk433
     have hE434 : Chg (fun b => InR [(b22, b22 + 1)] b ∨ w189.heap.size ≤ b) w189 w432 := hgk433.st.ex.imp (fun b _ h => h.imp (fun h => h.2) (fun h => h))
     have hE434z := Chg.size hE434
     obtain ⟨_, hx435, rfl⟩ := hgk433.val 4 25 rfl rfl
     exact OpR.skip rfl rfl hx435 hb210 ⟨Chg.refl _ _, rfl⟩
    ·intro L437 w438 G436 hgk439
     have hE440 : Chg (fun b => InR [(b22, b22 + 1)] b ∨ w189.heap.size ≤ b) w189 w438 := hgk439.st.ex.imp (fun b _ h => h.imp (fun h => h.2) (fun h => h))
     have hE440z := Chg.size hE440
     obtain ⟨_, hx441, rfl⟩ := hgk439.val 4 25 rfl rfl
     exact OpR.skip rfl rfl hx441 hb210 ⟨Chg.refl _ _, rfl⟩
    ·intro L443 w444 G442 hgk445
     have hE446 : Chg (fun b => InR [(b22, b22 + 1)] b ∨ w189.heap.size ≤ b) w189 w444 := hgk445.st.ex.imp (fun b _ h => h.imp (fun h => h.2) (fun h => h))
     have hE446z := Chg.size hE446
     obtain ⟨_, hx447, rfl⟩ := hgk445.val 4 25 rfl rfl
     exact OpR.skip rfl rfl hx447 hb210 ⟨Chg.refl _ _, rfl⟩
    ·intro L449 w450 G448 hgk451
     have hE452 : Chg (fun b => InR [(b22, b22 + 1)] b ∨ w189.heap.size ≤ b) w189 w450 := hgk451.st.ex.imp (fun b _ h => h.imp (fun h => h.2) (fun h => h))
     have hE452z := Chg.size hE452
     obtain ⟨_, hx453, rfl⟩ := hgk451.val 4 25 rfl rfl
     exact OpR.skip rfl rfl hx453 hb210 ⟨Chg.refl _ _, rfl⟩
    ·intro L455 w456 G454 hgk457
     have hE458 : Chg (fun b => InR [(b22, b22 + 1)] b ∨ w189.heap.size ≤ b) w189 w456 := hgk457.st.ex.imp (fun b _ h => h.imp (fun h => h.2) (fun h => h))
     have hE458z := Chg.size hE458
     obtain ⟨_, hx459, rfl⟩ := hgk457.val 4 25 rfl rfl
     exact OpR.skip rfl rfl hx459 hb210 ⟨Chg.refl _ _, rfl⟩
    ·intro L461 w462 G460 hgk463
     have hE464 : Chg (fun b => InR [(b22, b22 + 1)] b ∨ w189.heap.size ≤ b) w189 w462 := hgk463.st.ex.imp (fun b _ h => h.imp (fun h => h.2) (fun h => h))
     have hE464z := Chg.size hE464
     obtain ⟨_, hx465, rfl⟩ := hgk463.val 9 30 rfl rfl
     obtain ⟨_, hx466, rfl⟩ := hgk463.val 4 25 rfl rfl
     exact OpR.op' rfl (Yl.sameG (yl_pick_f rfl hx466 hb210 rfl kI))
    ·intro L468 w469 G467 hgk470
     have hE471 := hgk470.st.ex.ex (fun b h => h.elim (fun h => (Bool.false_ne_true (hgk470.new.symm.trans h.1)).elim) (fun h => h))
     have hE471z := Ex.size hE471
     obtain ⟨_, hx473, rfl⟩ := hgk470.val 0 21 rfl rfl
     refine OpR.op' rfl (yl_store (vs := [.slice A43_173 ((([(p_w.Key.drop 2)] : List Str) ++ (s_l1Split p_w.Val 44)).length) c44_174]) ty70 rfl (hgk470.old 4 _ rfl rfl) hx473 rfl rfl rfl (Box.ex (Box.only (Box.ex hB26 hE157) hO191 (by omega)) hE471) (Nat.le_of_ble_eq_true rfl) ?_)
     intro w477 hB478 hO479
     have hO479z := hO479.size
     exact ⟨Chg.of_only hO479 (⟨rfl, Nat.le_refl _, by omega⟩), hB478⟩
    ·intro L481 w482 G480 hgk483
     have hE484 : Chg (fun b => InR [(b22, b22 + 1)] b ∨ w189.heap.size ≤ b) w189 w482 := hgk483.st.ex.imp (fun b _ h => h.imp (fun h => h.2) (fun h => h))
     have hE484z := Chg.size hE484
     obtain ⟨_, hx485, rfl⟩ := hgk483.val 10 31 rfl rfl
     exact OpR.op' rfl (Yl.sameG (yl_assign rfl hx485 kI))
    ·intro G486 L487 w488 hgp489
     have hE490 : Chg (fun b => InR [(b22, b22 + 1)] b ∨ w189.heap.size ≤ b) w189 w488 := hgp489.st.ex.imp (fun b _ h => h.imp (fun h => h.2) (fun h => h))
     have hE490z := Chg.size hE490
     obtain ⟨_, h492⟩ := hgp489.fact 11 rfl
     obtain ⟨_, hx493, rfl⟩ := hgp489.val 12 5 rfl rfl
     have hr494 := hgp489.st.rng 11 (hgp489.has 11 rfl)
     refine dn (CW.sub (Sub.cons (d := 4) (hgp489.old 4 _ rfl rfl) (Sub.cons (d := 5) hx493 (Sub.nil _))) (CW.ret (rr rfl (.cons ⟨_, rfl, run_loadN ty70 (cs := [.slice A43_173 ((([(p_w.Key.drop 2)] : List Str) ++ (s_l1Split p_w.Val 44)).length) c44_174]) rfl (h492.cells (n := 1) rfl)⟩ (.cons rfl .nil)) ?_)))
     have hM495 : (s_l25Read p_t p_w) = (((⟨(([(p_w.Key.drop 2)] : List Str) ++ (s_l1Split p_w.Val 44))⟩ : DRow), false)) := by simp only [s_l25Read, hb29, hb210, cL]
     have hol497 : (s_l1Split p_w.Val 44).length ≤ 2147483648 := (okL_l1Split o4.2).1
     rw [hM495]
     exact ⟨A43_173, c44_174, (G153.fl 7), (G153.fh 7), rfl, (OwnL.chg good_Str q384 hE490 (fun k hl hk => by simp only [InR, or_false] at hk; omega)), (okL.mk (xs := (([(p_w.Key.drop 2)] : List Str) ++ (s_l1Split p_w.Val 44))) (by first | omega | (simp only [List.length_append, List.length_cons, List.length_nil, List.length_take, List.length_drop, List.length_replicate, List.length_set, toS_length]; omega)) (okE.append ((okL.mk (Nat.le_of_ble_eq_true rfl) (okE.cons (okS.drop o4.1 _) okE.nil))).2 ((okL_l1Split o4.2)).2)), (by omega), (Ex.chg (Below.only (Ex.trans (Ex.trans (Ex.trans (Ex.trans (Ex.refl w) hE15) hE21) hE27) hE157) hO191 (by omega)) hE490 (fun k hk => by simp only [InR, or_false] at hk; omega))⟩
theorem c_s_l25Rows {A1 : Option Addr} {c1 : Nat} {A2 : Option Addr} {c2 : Nat} {A4 : Option Addr} {c4 : Nat} {w : World} (p_t : DTable) (p_store : List DWrite) (h1 : RdS w (Iv 0 w.heap.size) (RF e_Str) 1 A1 p_t.Cols.length c1 p_t.Cols) (h2 : RdS w (Iv 0 w.heap.size) (RF e_Idx) 3 A2 p_t.Idxs.length c2 p_t.Idxs) (h4 : RdS w (Iv 0 w.heap.size) (RF e_Write) 3 A4 p_store.length c4 p_store) (o3 : ok_Table p_t) (o5 : (okL ok_Write) p_store) : Cal Tryz.prog 42 #[.agg #[.string (bs (p_t.Name)), .slice A1 p_t.Cols.length c1, .slice A2 p_t.Idxs.length c2], .slice A4 p_store.length c4] w fun v w' => ∃ A_1 c_1 lo_1 hi_1, v = .slice A_1 ((s_l25Rows p_t p_store).length) c_1 ∧ OwnD w' lo_1 hi_1 70 1 RO_Row A_1 ((s_l25Rows p_t p_store).length) c_1 (s_l25Rows p_t p_store) ∧ (okL ok_Row) (s_l25Rows p_t p_store) ∧ (w.heap.size ≤ lo_1 ∧ lo_1 ≤ hi_1 ∧ hi_1 ≤ w'.heap.size) ∧ Ex w w' := by
 have hol6 : p_t.Name.length ≤ 1073741824 := o3.1
 have hol7 := o3.2.1.1
 have hol8 := o3.2.2.1
 have hol9 := o5.1
 refine Cal.of func42 rfl ntmps42 rfl (CW.seq (CW.region (sd rfl (yl_box rfl rfl rfl ?_))))
 intro b10 w11 hs12 hz13 hB14 hE15
 refine sd rfl (yl_assign rfl rfl (dn (CW.seq (CW.region (sd rfl (yl_assign rfl rfl (dn (CW.seq ?_))))))))
 refine CW.seq (CW.region (sd rfl (yl_move rfl rfl (sd rfl (yl_len un35 rfl rfl (sd rfl (yl_move rfl rfl (dn (CW.block (CW.loop (fun m102 L103 w104 => ∃ (k16 : Nat) (x98 : List DRow) (A99 : Option Addr) (c100 : Nat) (u101 : Nat), m102 = p_store.length - k16 ∧ k16 ≤ p_store.length ∧ w11.heap.size ≤ w104.heap.size ∧ lkp L103 2 = some (.pointer (some ⟨b10, 0, none⟩)) ∧ lkp L103 5 = some (.slice A99 x98.length c100) ∧ lkp L103 10 = some (.slice A4 p_store.length c4) ∧ lkp L103 11 = some (.int .i64 ((p_store.length : Int))) ∧ lkp L103 12 = some (.int .i64 ((k16 : Int))) ∧ Box w104 b10 33 [.string (bs (p_t.Name)), .slice A1 p_t.Cols.length c1, .slice A2 p_t.Idxs.length c2] ∧ RdS w104 (Iv 0 w.heap.size) (RF e_Str) 1 A1 p_t.Cols.length c1 p_t.Cols ∧ RdS w104 (Iv 0 w.heap.size) (RF e_Idx) 3 A2 p_t.Idxs.length c2 p_t.Idxs ∧ OwnD w104 w11.heap.size u101 70 1 RO_Row A99 x98.length c100 x98 ∧ RdS w104 (Iv 0 w.heap.size) (RF e_Write) 3 A4 p_store.length c4 p_store ∧ Ex w w104 ∧ (w11.heap.size ≤ u101 ∧ u101 ≤ w104.heap.size) ∧ x98.length ≤ 0 + 1 * (k16 - 0) ∧ (∀ y ∈ x98, ok_Row y) ∧ loopM (B_s_l25Rows_0 p_t p_store) (p_store.length - k16) k16 (x98) = loopM (B_s_l25Rows_0 p_t p_store) (p_store.length - 0) 0 (([] : List DRow))) (p_store.length - 0) ?_ ?_))))))))))
 ·exact ⟨0, ([] : List DRow), none, 0, w11.heap.size, rfl, (by omega), Nat.le_refl _, rfl, rfl, rfl, rfl, rfl, hB14, (RdS.ex good_Str h1 hE15), (RdS.ex good_Idx h2 hE15), (OwnD.nil w11 w11.heap.size w11.heap.size 70 1 RO_Row), (RdS.ex good_Write h4 hE15), (Ex.trans (Ex.refl w) hE15), (by omega), (by first | (simp; done) | (first | omega | (simp only [List.length_append, List.length_cons, List.length_nil, List.length_set, toS_length]; omega))), okE.nil, rfl⟩
 ·rintro m109 L110 w111 ⟨k16, x98, A99, c100, u101, rfl, hk112, hsz114, hl115, hl116, hl117, hl118, hl119, hf120, hf121, hf122, hf123, hf124, hf125, hu126, hln127, hok128, hI113⟩
  refine CW.sub (Sub.cons hl115 (Sub.cons hl116 (Sub.cons hl117 (Sub.cons hl118 (Sub.cons hl119 (Sub.nil _)))))) ?_
  have hf120z := Box.lt hf120
  have hf125z := Ex.size hf125
  have hbg129 := RdS.big hf124
  rcases Nat.lt_or_ge k16 p_store.length with hlt130 | hlt130
  ·refine CW.seq (CW.region (sd rfl (yl_lss rfl rfl rfl (dn (CW.seq (CW.cond_t rfl (lt_t hlt130) (CW.skip (tn ?_))))))))
   refine CW.seq (CW.block (CW.seq (CW.region ?_)))
   obtain ⟨eb131, eo131, _, eA131, _, ebl131, _, eR131, eC131⟩ := RdS.aD hf124 d_Write (i := k16)
   obtain rfl := eR131
   have eC131 : Cells w111 eb131 (eo131 + k16 * 3) [.string (bs ((p_store.getD k16 d_Write).Key)), .string (bs ((p_store.getD k16 d_Write).Val)), .bool ((p_store.getD k16 d_Write).Gone)] := eC131
   refine sd rfl (yl_ixN un35 ty53 rfl rfl rfl eA131 (sd rfl (yl_loadN ty53 rfl rfl eC131 rfl (sd rfl (yl_alloc ty53 (cs := [.string (bs (([] : Str))), .string (bs (([] : Str))), .bool (false)]) rfl rfl ?_)))))
   intro b132 w133 hs134 hz135 hB136 hE137
   refine SeqR.u rfl rfl (yl_store (vs := [.string (bs ((p_store.getD k16 d_Write).Key)), .string (bs ((p_store.getD k16 d_Write).Val)), .bool ((p_store.getD k16 d_Write).Gone)]) ty53 rfl rfl rfl rfl rfl rfl hB136 (Nat.le_of_ble_eq_true rfl) ?_)
   intro w138 hB139 hO140
   have hB139 : Box w138 b132 53 [.string (bs ((p_store.getD k16 d_Write).Key)), .string (bs ((p_store.getD k16 d_Write).Val)), .bool ((p_store.getD k16 d_Write).Gone)] := hB139
   have hO140z := hO140.size
   refine dn (CW.seq (CW.region ?_))
   have q142 := Box.only (Box.ex hf120 hE137) hO140 (by omega)
   refine sd rfl (yl_loadN ty33 rfl rfl (q142.cells (n := 3) rfl) rfl (sd rfl (yl_loadN ty53 rfl rfl (hB139.cells (n := 3) rfl) rfl ?_)))
   have q144 := RdS.only good_Str (RdS.ex good_Str hf121 hE137) hO140 (by simp only [Iv]; omega)
   have q146 := RdS.only good_Idx (RdS.ex good_Idx hf122 hE137) hO140 (by simp only [Iv]; omega)
   refine sd rfl (yl_call en56 rfl (oc rfl (oc rfl oz)) (Cal.mono (c_s_l25Read p_t (p_store.getD k16 d_Write) (RdS.up q144 good_Str) (RdS.up q146 good_Idx) o3 (okL.getD o5 ok_d_Write _)) ?_))
   rintro v150 w147 ⟨A148, c148, lo148, hi148, rfl, h148, ho149, hrn152, hE151⟩
   have hE151z := Ex.size hE151
   refine sd rfl (yl_move rfl rfl (sd rfl (yl_extract rfl rfl rfl (sd rfl (yl_extract rfl rfl rfl (sd rfl (yl_alloc ty70 (cs := [.slice none 0 0]) rfl rfl ?_)))))))
   intro b153 w154 hs155 hz156 hB157 hE158
   refine SeqR.u rfl rfl (yl_store (vs := [.slice A148 (((s_l25Read p_t (p_store.getD k16 d_Write)).1.Vals).length) c148]) ty70 rfl rfl rfl rfl rfl rfl hB157 (Nat.le_of_ble_eq_true rfl) ?_)
   intro w159 hB160 hO161
   have hB160 : Box w159 b153 70 [.slice A148 (((s_l25Read p_t (p_store.getD k16 d_Write)).1.Vals).length) c148] := hB160
   have hO161z := hO161.size
   refine sd rfl (yl_assign rfl rfl (dn (CW.seq (CW.region (sd rfl (yl_move rfl rfl (dn (bcase ((s_l25Read p_t (p_store.getD k16 d_Write)).2) (fun hb162 => ?_) (fun hb162 => ?_)))))))))
   ·refine CW.cond_t rfl hb162 (CW.region (sd rfl (yl_move rfl rfl (sd rfl (yl_loadN ty70 rfl rfl (hB160.cells (n := 1) rfl) rfl (sd rfl (yl_buildSlice (cs := [.slice A148 (((s_l25Read p_t (p_store.getD k16 d_Write)).1.Vals).length) c148]) un67 ty70 (by decide) rfl (oc rfl oz) (by kernel_rfl) ?_)))))))
    intro b163 w164 hs165 hz166 hB167 hE168
    have hO169 : OwnD w164 w138.heap.size (b163 + 1) 70 1 RO_Row (some ⟨b163, 0, none⟩) 1 1 ([(s_l25Read p_t (p_store.getD k16 d_Write)).1] : List DRow) := OwnD.of_box (b := b163) (xs := ([(s_l25Read p_t (p_store.getD k16 d_Write)).1] : List DRow)) (cells := [[.slice A148 (((s_l25Read p_t (p_store.getD k16 d_Write)).1.Vals).length) c148]]) (by rw [List.flatten_singleton]; exact hB167) (by omega) (Nat.lt_succ_self _) (.cons (l := w138.heap.size) (h := b163) (Nat.le_refl _) (by omega) rfl (fun k hk => by cases hk; exact .inr (Nat.le_refl _)) (mkO_Row (l := w138.heap.size) (h := b163) (OwnL.ex good_Str (OwnL.only good_Str (OwnL.ex good_Str h148 hE158) hO161 (by omega)) hE168) (by omega)) (.nil (Nat.le_succ _))) (Nat.le_of_ble_eq_true rfl)
    refine sd rfl (yl_appendD (xs := x98) (ys := ([(s_l25Read p_t (p_store.getD k16 d_Write)).1] : List DRow)) goodO_Row un67 ty70 rfl (Nat.le_of_ble_eq_true rfl) rfl rfl rfl (OwnD.ex goodO_Row (OwnD.only goodO_Row (OwnD.ex goodO_Row (OwnD.ex goodO_Row (OwnD.only goodO_Row (OwnD.ex goodO_Row hf123 hE137) hO140 (by omega)) hE151) hE158) hO161 (by omega)) hE168) hO169 (by first | omega | (simp only [List.length_append, List.length_cons, List.length_nil, List.length_take, List.length_drop, List.length_replicate, List.length_set, toS_length]; omega)) (by first | omega | (simp only [List.length_append, List.length_cons, List.length_nil, List.length_take, List.length_drop, List.length_replicate, List.length_set, toS_length]; omega)) (by omega) (by omega) (by omega) (by omega) ?_)
    intro A178 c179 w180 row181 hO182 hG183 hrg184
    have hG183z := hG183.size
    refine sd rfl (yl_assign rfl rfl (SeqR.done (bn (tn (CW.region (sd rfl (yl_inc rfl rfl rfl (by omega) (sd rfl (yl_move rfl rfl (dn ?_))))))))))
    have hB185 : B_s_l25Rows_0 p_t p_store k16 (x98) = .cont ((x98 ++ ([(s_l25Read p_t (p_store.getD k16 d_Write)).1] : List DRow))) := by simp only [B_s_l25Rows_0, hb162, cL]
    exact ⟨p_store.length - (k16 + 1), by omega, k16 + 1, (x98 ++ ([(s_l25Read p_t (p_store.getD k16 d_Write)).1] : List DRow)), A178, c179, w180.heap.size, rfl, hlt130, (by omega), rfl, rfl, rfl, rfl, rfl, (Box.grown (Box.ex (Box.only (Box.ex (Box.ex q142 hE151) hE158) hO161 (by omega)) hE168) hG183 (fun k hk => by have := hrg184 k hk; omega)), (RdS.grown good_Str (RdS.ex good_Str (RdS.only good_Str (RdS.ex good_Str (RdS.ex good_Str q144 hE151) hE158) hO161 (by simp only [Iv]; omega)) hE168) hG183 (fun k hk => by have := hrg184 k hk; simp only [Iv]; omega)), (RdS.grown good_Idx (RdS.ex good_Idx (RdS.only good_Idx (RdS.ex good_Idx (RdS.ex good_Idx q146 hE151) hE158) hO161 (by simp only [Iv]; omega)) hE168) hG183 (fun k hk => by have := hrg184 k hk; simp only [Iv]; omega)), hO182, (RdS.grown good_Write (RdS.ex good_Write (RdS.only good_Write (RdS.ex good_Write (RdS.ex good_Write (RdS.only good_Write (RdS.ex good_Write hf124 hE137) hO140 (by simp only [Iv]; omega)) hE151) hE158) hO161 (by simp only [Iv]; omega)) hE168) hG183 (fun k hk => by have := hrg184 k hk; simp only [Iv]; omega)), (Below.grown (Ex.trans (Below.only (Ex.trans (Ex.trans (Below.only (Ex.trans hf125 hE137) hO140 (by omega)) hE151) hE158) hO161 (by omega)) hE168) hG183 (by omega) (fun k hk => by have := hrg184 k hk; omega)), (by omega), (by first | omega | (simp only [List.length_append, List.length_cons, List.length_nil, List.length_set, toS_length]; omega)), (okE.append hok128 ((okL.mk (Nat.le_of_ble_eq_true rfl) (okE.cons ho149 okE.nil))).2), (loopM.cont hlt130 hB185).symm.trans hI113⟩
   ·refine CW.cond_f rfl hb162 (CW.skip (bn (tn (CW.region (sd rfl (yl_inc rfl rfl rfl (by omega) (sd rfl (yl_move rfl rfl (dn ?_)))))))))
    have hB215 : B_s_l25Rows_0 p_t p_store k16 (x98) = .cont (x98) := by simp only [B_s_l25Rows_0, hb162, cL]
    exact ⟨p_store.length - (k16 + 1), by omega, k16 + 1, x98, A99, c100, u101, rfl, hlt130, (by omega), rfl, rfl, rfl, rfl, rfl, (Box.only (Box.ex (Box.ex q142 hE151) hE158) hO161 (by omega)), (RdS.only good_Str (RdS.ex good_Str (RdS.ex good_Str q144 hE151) hE158) hO161 (by simp only [Iv]; omega)), (RdS.only good_Idx (RdS.ex good_Idx (RdS.ex good_Idx q146 hE151) hE158) hO161 (by simp only [Iv]; omega)), (OwnD.only goodO_Row (OwnD.ex goodO_Row (OwnD.ex goodO_Row (OwnD.only goodO_Row (OwnD.ex goodO_Row hf123 hE137) hO140 (by omega)) hE151) hE158) hO161 (by omega)), (RdS.only good_Write (RdS.ex good_Write (RdS.ex good_Write (RdS.only good_Write (RdS.ex good_Write hf124 hE137) hO140 (by simp only [Iv]; omega)) hE151) hE158) hO161 (by simp only [Iv]; omega)), (Below.only (Ex.trans (Ex.trans (Below.only (Ex.trans hf125 hE137) hO140 (by omega)) hE151) hE158) hO161 (by omega)), (by omega), (by first | omega | (simp only [List.length_append, List.length_cons, List.length_nil, List.length_set, toS_length]; omega)), hok128, (loopM.cont hlt130 hB215).symm.trans hI113⟩
  ·refine CW.seq (CW.region (sd rfl (yl_lss rfl rfl rfl (dn (CW.seq (CW.cond_f rfl (lt_f hlt130) (CW.exit (tx ?_))))))))
   refine tx ?_
   have hL240 : loopM (B_s_l25Rows_0 p_t p_store) (p_store.length - 0) 0 (([] : List DRow)) = .done (x98) := hI113.symm.trans (loopM.stop hlt130)
   refine bx (tn (CW.seq (CW.region (sd rfl (yl_move rfl rfl (sd rfl (yl_assign rfl rfl (dn (CW.ret ?_)))))))))
   refine rr rfl (.cons rfl .nil) ?_
   have hM241 : (s_l25Rows p_t p_store) = (x98) := by simp only [s_l25Rows, hL240, cL]
   rw [hM241]
   exact ⟨A99, c100, w11.heap.size, u101, rfl, hf123, (okL.mk (xs := x98) (by first | omega | (simp only [List.length_append, List.length_cons, List.length_nil, List.length_take, List.length_drop, List.length_replicate, List.length_set, toS_length]; omega)) hok128), (by omega), hf125⟩
theorem c_s_l25Entry {A1 : Option Addr} {c1 : Nat} {A2 : Option Addr} {c2 : Nat} {A5 : Option Addr} {c5 : Nat} {w : World} (p_t : DTable) (p_x : DIdx) (p_r : DRow) (h1 : RdS w (Iv 0 w.heap.size) (RF e_Str) 1 A1 p_t.Cols.length c1 p_t.Cols) (h2 : RdS w (Iv 0 w.heap.size) (RF e_Idx) 3 A2 p_t.Idxs.length c2 p_t.Idxs) (h5 : RdS w (Iv 0 w.heap.size) (RF e_Str) 1 A5 p_r.Vals.length c5 p_r.Vals) (o3 : ok_Table p_t) (o4 : ok_Idx p_x) (o6 : ok_Row p_r) (pre0 : (0 ≤ p_x.Col ∧ p_x.Col < (p_r.Vals.length : Int))) (pre1 : (p_t.Name.length ≤ 1 ∧ p_x.Name.length ≤ 1)) (pre2 : rowShort p_r) : Cal Tryz.prog 43 #[.agg #[.string (bs (p_t.Name)), .slice A1 p_t.Cols.length c1, .slice A2 p_t.Idxs.length c2], .agg #[.string (bs (p_x.Name)), .int .i64 (p_x.Col), .int .i64 (p_x.Stage)], .agg #[.slice A5 p_r.Vals.length c5]] w fun v w' => v = .string (bs ((s_l25Entry p_t p_x p_r))) ∧ okS (s_l25Entry p_t p_x p_r) ∧ Ex w w' := by
 have hol7 : p_t.Name.length ≤ 1073741824 := o3.1
 have hol8 := o3.2.1.1
 have hol9 := o3.2.2.1
 have hol10 : p_x.Name.length ≤ 1073741824 := o4
 have hol11 := o6.1
 refine Cal.of func43 rfl ntmps43 rfl (CW.seq (CW.region (sd rfl (yl_box rfl rfl rfl ?_))))
 intro b12 w13 hs14 hz15 hB16 hE17
 refine sd rfl (yl_box rfl rfl rfl ?_)
 intro b18 w19 hs20 hz21 hB22 hE23
 refine sd rfl (yl_box rfl rfl rfl ?_)
 intro b24 w25 hs26 hz27 hB28 hE29
 refine sd rfl (yl_assign rfl rfl (dn (CW.seq ?_)))
 have hol32 : p_t.Name.length ≤ 1073741824 := o3.1
 have q33 := Box.ex hB22 hE29
 have hol34 : p_t.Name.length ≤ 1073741824 := o3.1
 have hol35 : p_x.Name.length ≤ 1073741824 := o4
 have hol36 : p_t.Name.length ≤ 1073741824 := o3.1
 have hol37 : p_x.Name.length ≤ 1073741824 := o4
 have q40 := RdS.ex good_Str (RdS.ex good_Str (RdS.ex good_Str h5 hE17) hE23) hE29
 obtain ⟨eb41, eo41, _, eA41, _, ebl41, _, eR41, eC41⟩ := RdS.atD q40 d_Str (i := (p_x.Col).toNat) (by first | omega | assumption | (simp only [wI] at *; omega))
 obtain rfl := eR41
 have eC41 : Cells w25 eb41 (eo41 + ((p_x.Col).toNat) * 1) [.string (bs ((p_r.Vals.getD ((p_x.Col).toNat) d_Str)))] := eC41
 have hol42 : p_t.Name.length ≤ 1073741824 := o3.1
 have hol43 : p_x.Name.length ≤ 1073741824 := o4
 have hol44 : (p_r.Vals.getD ((p_x.Col).toNat) d_Str).length ≤ 1073741824 := (okL.getD o6 ok_d_Str _)
 have hol45 : p_t.Name.length ≤ 1073741824 := o3.1
 have hol46 : p_x.Name.length ≤ 1073741824 := o4
 have hol47 : (p_r.Vals.getD ((p_x.Col).toNat) d_Str).length ≤ 1073741824 := (okL.getD o6 ok_d_Str _)
 obtain ⟨eb48, eo48, _, eA48, _, ebl48, _, eR48, eC48⟩ := RdS.aD q40 d_Str (i := 0)
 obtain rfl := eR48
 have eC48 : Cells w25 eb48 (eo48 + 0 * 1) [.string (bs ((p_r.Vals.getD 0 d_Str)))] := eC48
 have hol49 : p_t.Name.length ≤ 1073741824 := o3.1
 have hol50 : p_x.Name.length ≤ 1073741824 := o4
 have hol51 : (p_r.Vals.getD ((p_x.Col).toNat) d_Str).length ≤ 1073741824 := (okL.getD o6 ok_d_Str _)
 have hol52 : (p_r.Vals.getD 0 d_Str).length ≤ 1073741824 := (okL.getD o6 ok_d_Str _)
 refine CW.drawsI 21 (vgetI ([.pointer (some ⟨b12, 0 + 0, none⟩), .string (bs (p_t.Name)), .string (bs (p_t.Name ++ ([46] : Str))), .pointer (some ⟨b18, 0 + 0, none⟩), .string (bs (p_x.Name)), .string (bs ((p_t.Name ++ ([46] : Str)) ++ p_x.Name)), .string (bs (((p_t.Name ++ ([46] : Str)) ++ p_x.Name) ++ ([47] : Str))), .pointer (some ⟨b24, 0 + 0, none⟩), .slice A5 p_r.Vals.length c5, .pointer (some ⟨b18, 0 + 1, none⟩), .int .i64 (p_x.Col), .pointer (some ⟨eb41, eo41 + ((p_x.Col).toNat) * 1, none⟩), .string (bs ((p_r.Vals.getD ((p_x.Col).toNat) d_Str))), .string (bs ((((p_t.Name ++ ([46] : Str)) ++ p_x.Name) ++ ([47] : Str)) ++ (p_r.Vals.getD ((p_x.Col).toNat) d_Str))), .string (bs (((((p_t.Name ++ ([46] : Str)) ++ p_x.Name) ++ ([47] : Str)) ++ (p_r.Vals.getD ((p_x.Col).toNat) d_Str)) ++ ([47] : Str))), .pointer (some ⟨b24, 0 + 0, none⟩), .slice A5 p_r.Vals.length c5, .pointer (some ⟨eb48, eo48 + 0 * 1, none⟩), .string (bs ((p_r.Vals.getD 0 d_Str))), .string (bs ((((((p_t.Name ++ ([46] : Str)) ++ p_x.Name) ++ ([47] : Str)) ++ (p_r.Vals.getD ((p_x.Col).toNat) d_Str)) ++ ([47] : Str)) ++ (p_r.Vals.getD 0 d_Str))), .string (bs ((((((p_t.Name ++ ([46] : Str)) ++ p_x.Name) ++ ([47] : Str)) ++ (p_r.Vals.getD ((p_x.Col).toNat) d_Str)) ++ ([47] : Str)) ++ (p_r.Vals.getD 0 d_Str)))].map DetI)) Tryz.follows rfl rfl rfl rfl rfl rfl (vgetI_stable (stD _)) ⟨?_, ?_, ?_, ?_, ?_, ?_, ?_, ?_, ?_, ?_, ?_, ?_, ?_, ?_, ?_, ?_, ?_, ?_, ?_, ?_, ?_, trivial⟩ ?_
 ·exact oI rfl fun h => yl_fieldAddr fd33_0 rfl (h.old 3 _ rfl rfl) kI
 ·exact oI rfl fun h => yl_load1 ty9 rfl (h.dt 0 7 rfl rfl rfl) (((Box.ex (Box.ex (Box.ex hB16 hE23) hE29) h.ex).cell 0).trans rfl) kI
 ·intro L64 w65 hi66
  have hE67 := hi66.ex
  have hE67z := Ex.size hE67
  have hol69 : p_t.Name.length ≤ 1073741824 := o3.1
  exact os rfl ((yl_sadd (a := p_t.Name) (b := ([46] : Str)) rfl (hi66.dt 1 8 rfl rfl rfl) rfl (by first | omega | (simp only [List.length_append, List.length_cons, List.length_nil, List.length_take, List.length_drop, toS_length]; omega)) kI))
 ·exact oI rfl fun h => yl_fieldAddr fd72_0 rfl (h.old 4 _ rfl rfl) kI
 ·exact oI rfl fun h => yl_load1 ty9 rfl (h.dt 3 10 rfl rfl rfl) (((Box.ex q33 h.ex).cell 0).trans rfl) kI
 ·intro L81 w82 hi83
  have hE84 := hi83.ex
  have hE84z := Ex.size hE84
  have hol87 : p_t.Name.length ≤ 1073741824 := o3.1
  have hol88 : p_x.Name.length ≤ 1073741824 := o4
  exact os rfl ((yl_sadd (a := (p_t.Name ++ ([46] : Str))) (b := p_x.Name) rfl (hi83.dt 2 9 rfl rfl rfl) (hi83.dt 4 11 rfl rfl rfl) (by first | omega | (simp only [List.length_append, List.length_cons, List.length_nil, List.length_take, List.length_drop, toS_length]; omega)) kI))
 ·intro L89 w90 hi91
  have hE92 := hi91.ex
  have hE92z := Ex.size hE92
  have hol94 : p_t.Name.length ≤ 1073741824 := o3.1
  have hol95 : p_x.Name.length ≤ 1073741824 := o4
  exact os rfl ((yl_sadd (a := ((p_t.Name ++ ([46] : Str)) ++ p_x.Name)) (b := ([47] : Str)) rfl (hi91.dt 5 12 rfl rfl rfl) rfl (by first | omega | (simp only [List.length_append, List.length_cons, List.length_nil, List.length_take, List.length_drop, toS_length]; omega)) kI))
 ·exact oI rfl fun h => yl_fieldAddr fd70_0 rfl (h.old 5 _ rfl rfl) kI
 ·exact oI rfl fun h => yl_load1 ty22 rfl (h.dt 7 14 rfl rfl rfl) (((Box.ex hB28 h.ex).cell 0).trans rfl) kI
 ·exact oI rfl fun h => yl_fieldAddr fd72_1 rfl (h.old 4 _ rfl rfl) kI
 ·exact oI rfl fun h => yl_load1 ty3 rfl (h.dt 9 16 rfl rfl rfl) (((Box.ex q33 h.ex).cell 1).trans rfl) kI
 ·intro L118 w119 hi120
  have hE121 := hi120.ex
  have hE121z := Ex.size hE121
  exact os rfl ((yl_indexAddr un22 ty9 rfl (hi120.dt 8 15 rfl rfl rfl) (hi120.dt 10 17 rfl rfl rfl) eA41 (by first | omega | assumption | (simp only [wI] at *; omega)) (by first | omega | assumption | (simp only [wI] at *; omega)) kI))
 ·exact oI rfl fun h => yl_load1 ty9 rfl (h.dt 11 18 rfl rfl rfl) ((Cells.ex eC41 h.ex) 0 _ rfl) kI
 ·intro L130 w131 hi132
  have hE133 := hi132.ex
  have hE133z := Ex.size hE133
  have hol136 : p_t.Name.length ≤ 1073741824 := o3.1
  have hol137 : p_x.Name.length ≤ 1073741824 := o4
  have hol138 : (p_r.Vals.getD ((p_x.Col).toNat) d_Str).length ≤ 1073741824 := (okL.getD o6 ok_d_Str _)
  exact os rfl ((yl_sadd (a := (((p_t.Name ++ ([46] : Str)) ++ p_x.Name) ++ ([47] : Str))) (b := (p_r.Vals.getD ((p_x.Col).toNat) d_Str)) rfl (hi132.dt 6 13 rfl rfl rfl) (hi132.dt 12 19 rfl rfl rfl) (by first | omega | (simp only [List.length_append, List.length_cons, List.length_nil, List.length_take, List.length_drop, toS_length]; omega)) kI))
 ·intro L139 w140 hi141
  have hE142 := hi141.ex
  have hE142z := Ex.size hE142
  have hol144 : p_t.Name.length ≤ 1073741824 := o3.1
  have hol145 : p_x.Name.length ≤ 1073741824 := o4
  have hol146 : (p_r.Vals.getD ((p_x.Col).toNat) d_Str).length ≤ 1073741824 := (okL.getD o6 ok_d_Str _)
  exact os rfl ((yl_sadd (a := ((((p_t.Name ++ ([46] : Str)) ++ p_x.Name) ++ ([47] : Str)) ++ (p_r.Vals.getD ((p_x.Col).toNat) d_Str))) (b := ([47] : Str)) rfl (hi141.dt 13 20 rfl rfl rfl) rfl (by first | omega | (simp only [List.length_append, List.length_cons, List.length_nil, List.length_take, List.length_drop, toS_length]; omega)) kI))
 ·exact oI rfl fun h => yl_fieldAddr fd70_0 rfl (h.old 5 _ rfl rfl) kI
 ·exact oI rfl fun h => yl_load1 ty22 rfl (h.dt 15 22 rfl rfl rfl) (((Box.ex hB28 h.ex).cell 0).trans rfl) kI
 ·intro L158 w159 hi160
  have hE161 := hi160.ex
  have hE161z := Ex.size hE161
  exact os rfl ((yl_ixN un22 ty9 rfl (hi160.dt 16 23 rfl rfl rfl) rfl eA48 kI))
 ·exact oI rfl fun h => yl_load1 ty9 rfl (h.dt 17 24 rfl rfl rfl) ((Cells.ex eC48 h.ex) 0 _ rfl) kI
 ·intro L169 w170 hi171
  have hE172 := hi171.ex
  have hE172z := Ex.size hE172
  have hol175 : p_t.Name.length ≤ 1073741824 := o3.1
  have hol176 : p_x.Name.length ≤ 1073741824 := o4
  have hol177 : (p_r.Vals.getD ((p_x.Col).toNat) d_Str).length ≤ 1073741824 := (okL.getD o6 ok_d_Str _)
  have hol178 : (p_r.Vals.getD 0 d_Str).length ≤ 1073741824 := (okL.getD o6 ok_d_Str _)
  exact os rfl ((yl_sadd (a := (((((p_t.Name ++ ([46] : Str)) ++ p_x.Name) ++ ([47] : Str)) ++ (p_r.Vals.getD ((p_x.Col).toNat) d_Str)) ++ ([47] : Str))) (b := (p_r.Vals.getD 0 d_Str)) rfl (hi171.dt 14 21 rfl rfl rfl) (hi171.dt 18 25 rfl rfl rfl) (by first | omega | (simp only [List.length_append, List.length_cons, List.length_nil, List.length_take, List.length_drop, toS_length]; omega)) kI))
 ·exact oI rfl fun h => yl_assign rfl (h.dt 19 26 rfl rfl rfl) kI
 ·intro fl187 fh188 L184 w185 hp186
  have hE189 := hp186.ex
  have hE189z := Ex.size hE189
  refine dn (CW.sub (Sub.cons (d := 6) (hp186.nt 20 6 rfl rfl rfl) (Sub.nil _)) (CW.ret (rr rfl (.cons rfl .nil) ?_)))
  have hM191 : (s_l25Entry p_t p_x p_r) = ((((((p_t.Name ++ ([46] : Str)) ++ p_x.Name) ++ ([47] : Str)) ++ (p_r.Vals.getD ((p_x.Col).toNat) d_Str)) ++ ([47] : Str)) ++ (p_r.Vals.getD 0 d_Str)) := by simp only [s_l25Entry, cL]
  rw [hM191]
  exact ⟨rfl, (okS_l25Entry pre1 pre2), (Ex.trans (Ex.trans (Ex.trans (Ex.trans (Ex.refl w) hE17) hE23) hE29) hE189)⟩
theorem c_s_l25Wanted {A1 : Option Addr} {c1 : Nat} {A2 : Option Addr} {c2 : Nat} {A5 : Option Addr} {c5 : Nat} {w : World} (p_t : DTable) (p_name : Str) (p_store : List DWrite) (h1 : RdS w (Iv 0 w.heap.size) (RF e_Str) 1 A1 p_t.Cols.length c1 p_t.Cols) (h2 : RdS w (Iv 0 w.heap.size) (RF e_Idx) 3 A2 p_t.Idxs.length c2 p_t.Idxs) (h5 : RdS w (Iv 0 w.heap.size) (RF e_Write) 3 A5 p_store.length c5 p_store) (o3 : ok_Table p_t) (o4 : okS p_name) (o6 : (okL ok_Write) p_store) (pre0 : s_GoodTable p_t = true) (pre1 : (0 ≤ s_l24Idx p_t p_name ∧ s_l24Idx p_t p_name < (p_t.Idxs.length : Int))) : Cal Tryz.prog 25 #[.agg #[.string (bs (p_t.Name)), .slice A1 p_t.Cols.length c1, .slice A2 p_t.Idxs.length c2], .string (bs (p_name)), .slice A5 p_store.length c5] w fun v w' => ∃ A_1 c_1 lo_1 hi_1, v = .slice A_1 ((s_l25Wanted p_t p_name p_store).length) c_1 ∧ OwnL w' lo_1 hi_1 9 1 (RF e_Str) A_1 ((s_l25Wanted p_t p_name p_store).length) c_1 (s_l25Wanted p_t p_name p_store) ∧ (okL okS) (s_l25Wanted p_t p_name p_store) ∧ (w.heap.size ≤ lo_1 ∧ lo_1 ≤ hi_1 ∧ hi_1 ≤ w'.heap.size) ∧ Ex w w' := by
 have hol7 : p_t.Name.length ≤ 1073741824 := o3.1
 have hol8 := o3.2.1.1
 have hol9 := o3.2.2.1
 have hol10 : p_name.length ≤ 1073741824 := o4
 have hol11 := o6.1
 have hgt := f_s_GoodTable pre0
 have hgn := gt_name pre0
 have hgi := gt_idx pre0 (k := (s_l24Idx p_t p_name).toNat) (by omega)
 have hrl := (rows_good p_t p_store).1
 refine Cal.of func25 rfl ntmps25 rfl (CW.seq (CW.region (sd rfl (yl_box rfl rfl rfl ?_))))
 intro b12 w13 hs14 hz15 hB16 hE17
 refine sd rfl (yl_assign rfl rfl (dn (CW.seq (CW.region (sd rfl (yl_assign rfl rfl (dn (CW.seq ?_))))))))
 refine CW.seq (CW.region (sd rfl (yl_loadN ty33 rfl rfl (hB16.cells (n := 3) rfl) rfl (sd rfl (yl_move rfl rfl ?_)))))
 have q18 := RdS.ex good_Str h1 hE17
 have q19 := RdS.ex good_Idx h2 hE17
 refine sd rfl (yl_call en42 rfl (oc rfl (oc rfl oz)) (Cal.mono (c_s_l25Rows p_t p_store (RdS.up q18 good_Str) (RdS.up q19 good_Idx) (RdS.up (RdS.ex good_Write h5 hE17) good_Write) o3 o6) ?_))
 rintro v24 w21 ⟨A22, c22, lo22, hi22, rfl, h22, ho23, hrn26, hE25⟩
 have hE25z := Ex.size hE25
 refine sd rfl (yl_len un67 rfl rfl (sd rfl (yl_move rfl rfl (dn (CW.block (CW.loop (fun m93 L94 w95 => ∃ (k27 : Nat) (x89 : List Str) (A90 : Option Addr) (c91 : Nat) (u92 : Nat), m93 = (s_l25Rows p_t p_store).length - k27 ∧ k27 ≤ (s_l25Rows p_t p_store).length ∧ w21.heap.size ≤ w95.heap.size ∧ lkp L94 1 = some (.string (bs (p_name))) ∧ lkp L94 3 = some (.pointer (some ⟨b12, 0, none⟩)) ∧ lkp L94 7 = some (.slice A90 x89.length c91) ∧ lkp L94 12 = some (.slice A22 ((s_l25Rows p_t p_store).length) c22) ∧ lkp L94 13 = some (.int .i64 (((s_l25Rows p_t p_store).length : Int))) ∧ lkp L94 14 = some (.int .i64 ((k27 : Int))) ∧ Box w95 b12 33 [.string (bs (p_t.Name)), .slice A1 p_t.Cols.length c1, .slice A2 p_t.Idxs.length c2] ∧ RdS w95 (Iv 0 w.heap.size) (RF e_Str) 1 A1 p_t.Cols.length c1 p_t.Cols ∧ RdS w95 (Iv 0 w.heap.size) (RF e_Idx) 3 A2 p_t.Idxs.length c2 p_t.Idxs ∧ OwnL w95 w21.heap.size u92 9 1 (RF e_Str) A90 x89.length c91 x89 ∧ OwnD w95 lo22 hi22 70 1 RO_Row A22 ((s_l25Rows p_t p_store).length) c22 (s_l25Rows p_t p_store) ∧ Ex w w95 ∧ (w21.heap.size ≤ u92 ∧ u92 ≤ w95.heap.size) ∧ x89.length ≤ 0 + 1 * (k27 - 0) ∧ (∀ y ∈ x89, okS y) ∧ loopM (B_s_l25Wanted_0 p_t p_name p_store) ((s_l25Rows p_t p_store).length - k27) k27 (x89) = loopM (B_s_l25Wanted_0 p_t p_name p_store) ((s_l25Rows p_t p_store).length - 0) 0 (([] : List Str))) ((s_l25Rows p_t p_store).length - 0) ?_ ?_))))))
 ·exact ⟨0, ([] : List Str), none, 0, w21.heap.size, rfl, (by omega), Nat.le_refl _, rfl, rfl, rfl, rfl, rfl, rfl, (Box.ex hB16 hE25), (RdS.ex good_Str q18 hE25), (RdS.ex good_Idx q19 hE25), (OwnL.nil w21 w21.heap.size w21.heap.size 9 1 (RF e_Str)), h22, (Ex.trans (Ex.trans (Ex.refl w) hE17) hE25), (by omega), (by first | (simp; done) | (first | omega | (simp only [List.length_append, List.length_cons, List.length_nil, List.length_set, toS_length]; omega))), okE.nil, rfl⟩
 ·rintro m101 L102 w103 ⟨k27, x89, A90, c91, u92, rfl, hk104, hsz106, hl107, hl108, hl109, hl110, hl111, hl112, hf113, hf114, hf115, hf116, hf117, hf118, hu119, hln120, hok121, hI105⟩
  refine CW.sub (Sub.cons hl107 (Sub.cons hl108 (Sub.cons hl109 (Sub.cons hl110 (Sub.cons hl111 (Sub.cons hl112 (Sub.nil _))))))) ?_
  have hf113z := Box.lt hf113
  have hf118z := Ex.size hf118
  have hbg122 := RdS.big (OwnL.rd good_Row (OwnD.own goodO_Row good_Row hf117))
  rcases Nat.lt_or_ge k27 ((s_l25Rows p_t p_store).length) with hlt124 | hlt124
  ·have hrow := rows_at' p_t p_store hlt124
   refine CW.seq (CW.region (sd rfl (yl_lss rfl rfl rfl (dn (CW.seq (CW.cond_t rfl (lt_t hlt124) (CW.skip (tn ?_))))))))
   refine CW.seq (CW.block (CW.seq (CW.region ?_)))
   obtain ⟨_, _, _, eA126, _, ebl126, _, eR126, eC126⟩ := RdS.atD (OwnL.rd good_Row (OwnD.own goodO_Row good_Row hf117)) d_Row (i := k27) (by first | omega | assumption)
   obtain ⟨A127, c127, rfl, h127⟩ := eR126
   refine sd rfl (yl_ixN un67 ty70 rfl rfl rfl eA126 (sd rfl (yl_loadN ty70 rfl rfl eC126 rfl (sd rfl (yl_alloc ty70 (cs := [.slice none 0 0]) rfl rfl ?_)))))
   intro b128 w129 hs130 hz131 hB132 hE133
   refine SeqR.u rfl rfl (yl_store (vs := [.slice A127 ((((s_l25Rows p_t p_store).getD k27 d_Row).Vals).length) c127]) ty70 rfl rfl rfl rfl rfl rfl hB132 (Nat.le_of_ble_eq_true rfl) ?_)
   intro w134 hB135 hO136
   have hB135 : Box w134 b128 70 [.slice A127 ((((s_l25Rows p_t p_store).getD k27 d_Row).Vals).length) c127] := hB135
   have hO136z := hO136.size
   refine dn ?_
   have q138 := Box.only (Box.ex hf113 hE133) hO136 (by omega)
   have q140 := RdS.only good_Str (RdS.ex good_Str hf114 hE133) hO136 (by simp only [Iv]; omega)
   have q142 := RdS.only good_Idx (RdS.ex good_Idx hf115 hE133) hO136 (by simp only [Iv]; omega)
   obtain ⟨eb144, eo144, _, eA144, _, ebl144, _, eR144, eC144⟩ := RdS.atD q142 d_Idx (i := ((s_l24Idx p_t p_name)).toNat) (by first | omega | assumption | (simp only [wI] at *; omega))
   obtain rfl := eR144
   have eC144 : Cells w134 eb144 (eo144 + (((s_l24Idx p_t p_name)).toNat) * 3) [.string (bs ((p_t.Idxs.getD (((s_l24Idx p_t p_name)).toNat) d_Idx).Name)), .int .i64 ((p_t.Idxs.getD (((s_l24Idx p_t p_name)).toNat) d_Idx).Col), .int .i64 ((p_t.Idxs.getD (((s_l24Idx p_t p_name)).toNat) d_Idx).Stage)] := eC144
   have hrf152 := rf_s_l24Idx p_t p_name
   refine CW.drawsI 12 (vgetI [DetI (.slice A90 x89.length c91), DetI (.agg #[.string (bs (p_t.Name)), .slice A1 p_t.Cols.length c1, .slice A2 p_t.Idxs.length c2]), DetI (.pointer (some ⟨b12, 0 + 2, none⟩)), DetI (.slice A2 p_t.Idxs.length c2), DetI (.agg #[.string (bs (p_t.Name)), .slice A1 p_t.Cols.length c1, .slice A2 p_t.Idxs.length c2]), DetI (.string (bs (p_name))), DetI (.int .i64 ((s_l24Idx p_t p_name))), DetI (.pointer (some ⟨eb144, eo144 + (((s_l24Idx p_t p_name)).toNat) * 3, none⟩)), DetI (.agg #[.string (bs ((p_t.Idxs.getD (((s_l24Idx p_t p_name)).toNat) d_Idx).Name)), .int .i64 ((p_t.Idxs.getD (((s_l24Idx p_t p_name)).toNat) d_Idx).Col), .int .i64 ((p_t.Idxs.getD (((s_l24Idx p_t p_name)).toNat) d_Idx).Stage)]), DetI (.agg #[.slice A127 ((((s_l25Rows p_t p_store).getD k27 d_Row).Vals).length) c127]), fun lo hi v wq => v = .string (bs ((s_l25Entry p_t (p_t.Idxs.getD (((s_l24Idx p_t p_name)).toNat) d_Idx) ((s_l25Rows p_t p_store).getD k27 d_Row)))) ∧ okS (s_l25Entry p_t (p_t.Idxs.getD (((s_l24Idx p_t p_name)).toNat) d_Idx) ((s_l25Rows p_t p_store).getD k27 d_Row)), fun lo hi v wq => ∃ A149 c150, v = .slice A149 1 c150 ∧ OwnL wq lo hi 9 1 (RF e_Str) A149 1 c150 ([(s_l25Entry p_t (p_t.Idxs.getD (((s_l24Idx p_t p_name)).toNat) d_Idx) ((s_l25Rows p_t p_store).getD k27 d_Row))] : List Str)]) Tryz.follows rfl rfl rfl rfl rfl rfl (vgetI_stable ⟨StableI.det _, StableI.det _, StableI.det _, StableI.det _, StableI.det _, StableI.det _, StableI.det _, StableI.det _, StableI.det _, StableI.det _, (fun _ _ _ _ _ ⟨hv, ho148⟩ e => ⟨hv, ho148⟩), (fun _ _ _ _ _ ⟨A149, c150, hv, hO⟩ e => ⟨A149, c150, hv, OwnL.ex good_Str hO e⟩), trivial⟩) ⟨?_, ?_, ?_, ?_, ?_, ?_, ?_, ?_, ?_, ?_, ?_, ?_, trivial⟩ ?_
   ·exact oI rfl fun h => yl_move rfl (h.old 7 _ rfl rfl) kI
   ·exact oI rfl fun h => yl_loadN ty33 rfl (h.old 3 _ rfl rfl) ((Box.ex q138 h.ex).cells (n := 3) rfl) rfl kI
   ·exact oI rfl fun h => yl_fieldAddr fd33_2 rfl (h.old 3 _ rfl rfl) kI
   ·exact oI rfl fun h => yl_load1 ty31 rfl (h.dt 2 20 rfl rfl rfl) (((Box.ex q138 h.ex).cell 2).trans rfl) kI
   ·exact oI rfl fun h => yl_loadN ty33 rfl (h.old 3 _ rfl rfl) ((Box.ex q138 h.ex).cells (n := 3) rfl) rfl kI
   ·exact oI rfl fun h => yl_move rfl (h.old 1 _ rfl rfl) kI
   ·intro L186 w187 hi188
    have hE189 := hi188.ex
    exact OpR.op' rfl (yl_call en39 rfl (oc (hi188.dt 4 22 rfl rfl rfl) (oc (hi188.dt 5 23 rfl rfl rfl) oz)) (Cal.mono (c_s_l24Idx p_t p_name (RdS.up (RdS.ex good_Str q140 hE189) good_Str) (RdS.up (RdS.ex good_Idx q142 hE189) good_Idx) o3 o4) fun _ _ h => h))
   ·intro L197 w198 hi199
    have hE200 := hi199.ex
    have hE200z := Ex.size hE200
    exact os rfl ((yl_indexAddr un31 ty72 rfl (hi199.dt 3 21 rfl rfl rfl) (hi199.dt 6 24 rfl rfl rfl) eA144 (by first | omega | assumption | (simp only [wI] at *; omega)) (by first | omega | assumption | (simp only [wI] at *; omega)) kI))
   ·exact oI rfl fun h => yl_loadN ty72 rfl (h.dt 7 25 rfl rfl rfl) (Cells.ex eC144 h.ex) rfl kI
   ·exact oI rfl fun h => yl_loadN ty70 rfl (h.old 9 _ rfl rfl) ((Box.ex hB135 h.ex).cells (n := 1) rfl) rfl kI
   ·intro L215 w216 hi217
    have hE218 := hi217.ex
    have hE218z := Ex.size hE218
    refine OpR.op' rfl (yl_call en43 rfl (oc (hi217.dt 1 19 rfl rfl rfl) (oc (hi217.dt 8 26 rfl rfl rfl) (oc (hi217.dt 9 27 rfl rfl rfl) oz))) (Cal.mono (c_s_l25Entry p_t (p_t.Idxs.getD (((s_l24Idx p_t p_name)).toNat) d_Idx) ((s_l25Rows p_t p_store).getD k27 d_Row) (RdS.up (RdS.ex good_Str q140 hE218) good_Str) (RdS.up (RdS.ex good_Idx q142 hE218) good_Idx) (RdS.up (RdS.ex good_Str (RdS.only good_Str (RdS.ex good_Str h127 hE133) hO136 (by simp only [Iv]; omega)) hE218) good_Str) o3 (okL.getD o3.2.2 ok_d_Idx _) (okL.getD ho23 ok_d_Row _) (by first | omega | assumption | (simp only [wI] at *; omega)) (by first | omega | assumption | (simp only [wI] at *; omega)) hrow.2) ?_))
    rintro v227 w225 ⟨rfl, ho226, hE228⟩
    exact ⟨⟨rfl, ho226⟩, hE228⟩
   ·intro L229 w230 hi231
    have hE232 := hi231.ex
    have hE232z := Ex.size hE232
    obtain ⟨lo234, hh235, _, hx233, hr236, hr237, hr238, rfl, h239⟩ := hi231.dep 10 28 rfl rfl
    refine OpR.op' rfl (yl_buildSlice (cs := [.string (bs ((s_l25Entry p_t (p_t.Idxs.getD (((s_l24Idx p_t p_name)).toNat) d_Idx) ((s_l25Rows p_t p_store).getD k27 d_Row))))]) un22 ty9 (by decide) rfl (oc hx233 oz) (by kernel_rfl) ?_)
    intro b240 w241 hs242 hz243 hB244 hE245
    have hO246 : OwnL w241 b240 (b240 + 1) 9 1 (RF e_Str) (some ⟨b240, 0, none⟩) 1 1 ([(s_l25Entry p_t (p_t.Idxs.getD (((s_l24Idx p_t p_name)).toNat) d_Idx) ((s_l25Rows p_t p_store).getD k27 d_Row))] : List Str) := OwnL.of_box (S := fun _ => False) hB244 (Nat.le_refl _) (Nat.lt_succ_self _) (EncL.cons (c := [.string (bs ((s_l25Entry p_t (p_t.Idxs.getD (((s_l24Idx p_t p_name)).toNat) d_Idx) ((s_l25Rows p_t p_store).getD k27 d_Row))))]) rfl rfl EncL.nil) (Nat.le_of_ble_eq_true rfl) (fun h => h) (fun _ h => False.elim h)
    exact ⟨⟨(some ⟨b240, 0, none⟩), 1, rfl, OwnL.more hO246 (by omega) (by omega)⟩, hE245⟩
   ·intro fl250 fh251 L247 w248 hp249
    have hE252 := hp249.ex
    have hE252z := Ex.size hE252
    have hr260 := hp249.rng 11 rfl
    obtain ⟨_, hx259, A149_261, c150_262, rfl, h263⟩ := hp249.new 11 29 rfl rfl
    have q267 := OwnL.rd good_Str h263
    obtain ⟨nw268, he269, hs270⟩ := RdS.src q267
    refine sd rfl (yl_appendL (S := (fun _ => False)) (lo := w21.heap.size) (hi := u92) (xs := x89) (ys := ([(s_l25Entry p_t (p_t.Idxs.getD (((s_l24Idx p_t p_name)).toNat) d_Idx) ((s_l25Rows p_t p_store).getD k27 d_Row))] : List Str)) good_Str un22 ty9 rfl (Nat.le_of_ble_eq_true rfl) rfl (hp249.nt 0 18 rfl rfl rfl) hx259 (OwnL.ex good_Str (OwnL.only good_Str (OwnL.ex good_Str hf116 hE133) hO136 (by omega)) hE252) he269 hs270 (RdS.len q267) (by first | omega | (simp only [List.length_append, List.length_cons, List.length_nil, List.length_take, List.length_drop, List.length_replicate, List.length_set, toS_length]; omega)) (by first | omega | (simp only [List.length_append, List.length_cons, List.length_nil, List.length_take, List.length_drop, List.length_replicate, List.length_set, toS_length]; omega)) (by omega) (by omega) (fun _ h _ => False.elim h) (by omega) ?_)
    intro A271 c272 w273 row274 hO275 hG276 hrg277
    have hG276z := hG276.size
    refine sd rfl (yl_assign rfl rfl (SeqR.done (bn (tn (CW.sub (Sub.cons (d := 1) (hp249.old 1 _ rfl rfl) (Sub.cons (d := 3) (hp249.old 3 _ rfl rfl) (Sub.cons (d := 7) rfl (Sub.cons (d := 12) (hp249.old 12 _ rfl rfl) (Sub.cons (d := 13) (hp249.old 13 _ rfl rfl) (Sub.cons (d := 14) (hp249.old 14 _ rfl rfl) (Sub.nil _))))))) (CW.region (sd rfl (yl_inc rfl rfl rfl (by omega) (sd rfl (yl_move rfl rfl (SeqR.done ?_)))))))))))
    refine tn ?_
    have hB278 : B_s_l25Wanted_0 p_t p_name p_store k27 (x89) = .cont ((x89 ++ ([(s_l25Entry p_t (p_t.Idxs.getD (((s_l24Idx p_t p_name)).toNat) d_Idx) ((s_l25Rows p_t p_store).getD k27 d_Row))] : List Str))) := by simp only [B_s_l25Wanted_0, cL]
    exact ⟨(s_l25Rows p_t p_store).length - (k27 + 1), by omega, k27 + 1, (x89 ++ ([(s_l25Entry p_t (p_t.Idxs.getD (((s_l24Idx p_t p_name)).toNat) d_Idx) ((s_l25Rows p_t p_store).getD k27 d_Row))] : List Str)), A271, c272, w273.heap.size, rfl, hlt124, (by omega), rfl, rfl, rfl, rfl, rfl, rfl, (Box.grown (Box.ex q138 hE252) hG276 (fun k hk => by have := hrg277 k hk; omega)), (RdS.grown good_Str (RdS.ex good_Str q140 hE252) hG276 (fun k hk => by have := hrg277 k hk; simp only [Iv]; omega)), (RdS.grown good_Idx (RdS.ex good_Idx q142 hE252) hG276 (fun k hk => by have := hrg277 k hk; simp only [Iv]; omega)), hO275, (OwnD.grown goodO_Row (OwnD.ex goodO_Row (OwnD.only goodO_Row (OwnD.ex goodO_Row hf117 hE133) hO136 (by omega)) hE252) hG276 (fun k hk => by have := hrg277 k hk; omega)), (Below.grown (Ex.trans (Below.only (Ex.trans hf118 hE133) hO136 (by omega)) hE252) hG276 (by omega) (fun k hk => by have := hrg277 k hk; omega)), (by omega), (by first | omega | (simp only [List.length_append, List.length_cons, List.length_nil, List.length_set, toS_length]; omega)), (okE.append hok121 ((okL.mk (Nat.le_of_ble_eq_true rfl) (okE.cons (ok_l25Entry (by omega) hrow.2) okE.nil))).2), (loopM.cont hlt124 hB278).symm.trans hI105⟩
  ·refine CW.seq (CW.region (sd rfl (yl_lss rfl rfl rfl (dn (CW.seq (CW.cond_f rfl (lt_f hlt124) (CW.exit (tx ?_))))))))
   refine tx ?_
   have hL293 : loopM (B_s_l25Wanted_0 p_t p_name p_store) ((s_l25Rows p_t p_store).length - 0) 0 (([] : List Str)) = .done (x89) := hI105.symm.trans (loopM.stop hlt124)
   refine bx (tn (CW.seq (CW.region (sd rfl (yl_move rfl rfl (sd rfl (yl_assign rfl rfl (dn (CW.ret ?_)))))))))
   refine rr rfl (.cons rfl .nil) ?_
   have hM294 : (s_l25Wanted p_t p_name p_store) = (x89) := by simp only [s_l25Wanted, hL293, cL]
   rw [hM294]
   exact ⟨A90, c91, w21.heap.size, u92, rfl, hf116, (okL.mk (xs := x89) (by first | omega | (simp only [List.length_append, List.length_cons, List.length_nil, List.length_take, List.length_drop, List.length_replicate, List.length_set, toS_length]; omega)) hok121), (by omega), hf118⟩
theorem c_s_l25ReadEntry {A1 : Option Addr} {c1 : Nat} {A2 : Option Addr} {c2 : Nat} {w : World} (p_t : DTable) (p_name : Str) (p_key : Str) (h1 : RdS w (Iv 0 w.heap.size) (RF e_Str) 1 A1 p_t.Cols.length c1 p_t.Cols) (h2 : RdS w (Iv 0 w.heap.size) (RF e_Idx) 3 A2 p_t.Idxs.length c2 p_t.Idxs) (o3 : ok_Table p_t) (o4 : okS p_name) (o5 : okS p_key) : Cal Tryz.prog 44 #[.agg #[.string (bs (p_t.Name)), .slice A1 p_t.Cols.length c1, .slice A2 p_t.Idxs.length c2], .string (bs (p_name)), .string (bs (p_key))] w fun v w' => v = .tuple #[.string (bs ((s_l25ReadEntry p_t p_name p_key).1)), .string (bs ((s_l25ReadEntry p_t p_name p_key).2.1)), .bool ((s_l25ReadEntry p_t p_name p_key).2.2)] ∧ okS ((s_l25ReadEntry p_t p_name p_key).1) ∧ okS ((s_l25ReadEntry p_t p_name p_key).2.1) ∧ Ex w w' := by
 have hol6 : p_t.Name.length ≤ 1073741824 := o3.1
 have hol7 := o3.2.1.1
 have hol8 := o3.2.2.1
 have hol9 : p_name.length ≤ 1073741824 := o4
 have hol10 : p_key.length ≤ 1073741824 := o5
 refine Cal.of func44 rfl ntmps44 rfl (CW.seq (CW.region (sd rfl (yl_box rfl rfl rfl ?_))))
 intro b11 w12 hs13 hz14 hB15 hE16
 refine sd rfl (yl_assign rfl rfl (sd rfl (yl_assign rfl rfl (sd rfl (yl_assign rfl rfl (dn (CW.seq (CW.region (sd rfl (yl_move rfl rfl (sd rfl (yl_call en57 rfl (oc rfl (oc rfl oz)) (Cal.mono (c_s_l1Split p_key 47 o5) ?_)))))))))))))
 rintro v19 w17 ⟨A18, c18, lo18, hi18, rfl, h18, hrn21, hE20⟩
 have hE20z := Ex.size hE20
 have hrf22 := rf_l1Split p_key 47
 refine sd rfl (yl_assign rfl rfl (dn (CW.seq (CW.seq (bcase (decide (((s_l1Split p_key 47).length : Int) = 3)) (fun hb23 => ?_) (fun hb23 => ?_))))))
 ·have hb23p := dec_t hb23
  obtain ⟨eb25, eo25, _, eA25, _, ebl25, _, eR25, eC25⟩ := RdS.aD (OwnL.rd good_Str h18) d_Str (i := 0)
  obtain rfl := eR25
  have eC25 : Cells w17 eb25 (eo25 + 0 * 1) [.string (bs (((s_l1Split p_key 47).getD 0 d_Str)))] := eC25
  have hol27 : p_t.Name.length ≤ 1073741824 := o3.1
  have hol28 : p_t.Name.length ≤ 1073741824 := o3.1
  have hol29 : p_name.length ≤ 1073741824 := o4
  refine CW.drawsI 12 (vgetI ([.slice A18 ((s_l1Split p_key 47).length) c18, .int .i64 (((s_l1Split p_key 47).length : Int)), .bool (!(decide (((s_l1Split p_key 47).length : Int) = 3))), .bool (!(decide (((s_l1Split p_key 47).length : Int) = 3))), .slice A18 ((s_l1Split p_key 47).length) c18, .pointer (some ⟨eb25, eo25 + 0 * 1, none⟩), .string (bs (((s_l1Split p_key 47).getD 0 d_Str))), .pointer (some ⟨b11, 0 + 0, none⟩), .string (bs (p_t.Name)), .string (bs (p_t.Name ++ ([46] : Str))), .string (bs (p_name)), .string (bs ((p_t.Name ++ ([46] : Str)) ++ p_name))].map DetI)) Tryz.follows rfl rfl rfl rfl rfl rfl (vgetI_stable (stD _)) ⟨?_, ?_, ?_, ?_, ?_, ?_, ?_, ?_, ?_, ?_, ?_, ?_, trivial⟩ ?_
  ·exact oI rfl fun h => yl_move rfl (h.old 9 _ rfl rfl) kI
  ·exact oI rfl fun h => yl_len un22 rfl (h.dt 0 12 rfl rfl rfl) kI
  ·exact oI rfl fun h => yl_neq rfl (h.dt 1 13 rfl rfl rfl) rfl kI
  ·exact oI rfl fun h => yl_move rfl (h.dt 2 14 rfl rfl rfl) kI
  ·exact oW rfl rfl rfl rfl (not_t hb23) fun h => yl_move rfl (h.old 9 _ rfl rfl) kI
  ·intro L56 w57 hi58
   have hE59 := hi58.ex
   have hE59z := Ex.size hE59
   exact OpR.want rfl rfl (hi58.dt 3 15 rfl rfl rfl) (not_t hb23) (Yl.sameI (yl_ixN un22 ty9 rfl (hi58.dt 4 16 rfl rfl rfl) rfl eA25 kI))
  ·exact oW rfl rfl rfl rfl (not_t hb23) fun h => yl_load1 ty9 rfl (h.dt 5 17 rfl rfl rfl) ((Cells.ex eC25 h.ex) 0 _ rfl) kI
  ·exact oW rfl rfl rfl rfl (not_t hb23) fun h => yl_fieldAddr fd33_0 rfl (h.old 3 _ rfl rfl) kI
  ·exact oW rfl rfl rfl rfl (not_t hb23) fun h => yl_load1 ty9 rfl (h.dt 7 19 rfl rfl rfl) (((Box.ex (Box.ex hB15 hE20) h.ex).cell 0).trans rfl) kI
  ·intro L82 w83 hi84
   have hE85 := hi84.ex
   have hE85z := Ex.size hE85
   have hol88 : p_t.Name.length ≤ 1073741824 := o3.1
   exact OpR.want rfl rfl (hi84.dt 3 15 rfl rfl rfl) (not_t hb23) (Yl.sameI (yl_sadd (a := p_t.Name) (b := ([46] : Str)) rfl (hi84.dt 8 20 rfl rfl rfl) rfl (by first | omega | (simp only [List.length_append, List.length_cons, List.length_nil, List.length_take, List.length_drop, toS_length]; omega)) kI))
  ·exact oW rfl rfl rfl rfl (not_t hb23) fun h => yl_move rfl (h.old 1 _ rfl rfl) kI
  ·intro L95 w96 hi97
   have hE98 := hi97.ex
   have hE98z := Ex.size hE98
   have hol102 : p_t.Name.length ≤ 1073741824 := o3.1
   have hol103 : p_name.length ≤ 1073741824 := o4
   exact OpR.want rfl rfl (hi97.dt 3 15 rfl rfl rfl) (not_t hb23) (Yl.sameI (yl_sadd (a := (p_t.Name ++ ([46] : Str))) (b := p_name) rfl (hi97.dt 9 21 rfl rfl rfl) (hi97.dt 10 22 rfl rfl rfl) (by first | omega | (simp only [List.length_append, List.length_cons, List.length_nil, List.length_take, List.length_drop, toS_length]; omega)) kI))
  ·intro fl107 fh108 L104 w105 hp106
   have hE109 := hp106.ex
   have hE109z := Ex.size hE109
   have hx110 := hp106.old 9 _ rfl rfl
   have hx111 := hp106.nt 3 15 rfl rfl rfl
   refine sy rfl hx111 (not_t hb23) (yl_sneq (a := ((s_l1Split p_key 47).getD 0 d_Str)) (b := ((p_t.Name ++ ([46] : Str)) ++ p_name)) rfl (hp106.nt 6 18 rfl rfl rfl) (hp106.nt 11 23 rfl rfl rfl) (sd rfl (yl_pick_f rfl hx111 (not_t hb23) rfl (sd rfl (yl_move rfl rfl (bcase (((s_l1Split p_key 47).getD 0 d_Str) == ((p_t.Name ++ ([46] : Str)) ++ p_name)) (fun hb114 => ?_) (fun hb114 => ?_)))))))
   ·refine sy rfl rfl (not_t hb114) (yl_move rfl hx110 ?_)
    have q116 := OwnL.ex good_Str h18 hE109
    obtain ⟨eb117, eo117, _, eA117, _, ebl117, _, eR117, eC117⟩ := RdS.aD (OwnL.rd good_Str q116) d_Str (i := 1)
    obtain rfl := eR117
    have eC117 : Cells w105 eb117 (eo117 + 1 * 1) [.string (bs (((s_l1Split p_key 47).getD 1 d_Str)))] := eC117
    refine sy rfl rfl (not_t hb114) (yl_ixN un22 ty9 rfl rfl rfl eA117 (sy rfl rfl (not_t hb114) (yl_load1 ty9 rfl rfl (eC117 0 _ rfl) (sy rfl rfl (not_t hb114) (yl_call en58 rfl (oc rfl oz) (Cal.mono (c_s_l25Field ((s_l1Split p_key 47).getD 1 d_Str) (okS_l1Split o5 _ _)) ?_))))))
    rintro v119 w118 ⟨rfl, hE120⟩
    have hE120z := Ex.size hE120
    refine sy rfl rfl (not_t hb114) (yl_not rfl rfl (sd rfl (yl_pick_f rfl rfl (not_t hb114) rfl (sd rfl (yl_move rfl rfl (bcase (s_l25Field ((s_l1Split p_key 47).getD 1 d_Str)) (fun hb121 => ?_) (fun hb121 => ?_)))))))
    ·refine sy rfl rfl (not_t hb121) (yl_move rfl hx110 ?_)
     obtain ⟨eb124, eo124, _, eA124, _, ebl124, _, eR124, eC124⟩ := RdS.atD (OwnL.rd good_Str (OwnL.ex good_Str q116 hE120)) d_Str (i := 2) (by first | omega | assumption)
     obtain rfl := eR124
     have eC124 : Cells w118 eb124 (eo124 + 2 * 1) [.string (bs (((s_l1Split p_key 47).getD 2 d_Str)))] := eC124
     refine sy rfl rfl (not_t hb121) (yl_ixN un22 ty9 rfl rfl rfl eA124 (sy rfl rfl (not_t hb121) (yl_load1 ty9 rfl rfl (eC124 0 _ rfl) (sy rfl rfl (not_t hb121) (yl_call en58 rfl (oc rfl oz) (Cal.mono (c_s_l25Field ((s_l1Split p_key 47).getD 2 d_Str) (okS_l1Split o5 _ _)) ?_))))))
     rintro v126 w125 ⟨rfl, hE127⟩
     have hE127z := Ex.size hE127
     refine sy rfl rfl (not_t hb121) (yl_not rfl rfl (sd rfl (yl_pick_f rfl rfl (not_t hb121) rfl (dn (CW.sub (Sub.cons (d := 9) hx110 (Sub.cons (d := 39) rfl (Sub.nil _))) (bcase (s_l25Field ((s_l1Split p_key 47).getD 2 d_Str)) (fun hb128 => ?_) (fun hb128 => ?_)))))))
     ·refine CW.cond_f rfl (not_t hb128) (CW.skip (tn (CW.seq (CW.drawsI 9 (vgetI ([.slice A18 ((s_l1Split p_key 47).length) c18, .pointer (some ⟨eb117, eo117 + 1 * 1, none⟩), .string (bs (((s_l1Split p_key 47).getD 1 d_Str))), .slice A18 ((s_l1Split p_key 47).length) c18, .pointer (some ⟨eb124, eo124 + 2 * 1, none⟩), .string (bs (((s_l1Split p_key 47).getD 2 d_Str))), .string (bs (((s_l1Split p_key 47).getD 1 d_Str))), .string (bs (((s_l1Split p_key 47).getD 2 d_Str))), .bool (true)].map DetI)) Tryz.follows rfl rfl rfl rfl rfl rfl (vgetI_stable (stD _)) ⟨?_, ?_, ?_, ?_, ?_, ?_, ?_, ?_, ?_, trivial⟩ ?_))))
      ·exact oI rfl fun h => yl_move rfl (h.old 9 _ rfl rfl) kI
      ·intro L137 w138 hi139
       have hE140 := hi139.ex
       have hE140z := Ex.size hE140
       exact os rfl ((yl_ixN un22 ty9 rfl (hi139.dt 0 40 rfl rfl rfl) rfl eA117 kI))
      ·exact oI rfl fun h => yl_load1 ty9 rfl (h.dt 1 41 rfl rfl rfl) ((Cells.ex (Cells.ex (Cells.ex eC117 hE120) hE127) h.ex) 0 _ rfl) kI
      ·exact oI rfl fun h => yl_move rfl (h.old 9 _ rfl rfl) kI
      ·intro L153 w154 hi155
       have hE156 := hi155.ex
       have hE156z := Ex.size hE156
       exact os rfl ((yl_ixN un22 ty9 rfl (hi155.dt 3 43 rfl rfl rfl) rfl eA124 kI))
      ·exact oI rfl fun h => yl_load1 ty9 rfl (h.dt 4 44 rfl rfl rfl) ((Cells.ex (Cells.ex eC124 hE127) h.ex) 0 _ rfl) kI
      ·exact oI rfl fun h => yl_assign rfl (h.dt 2 42 rfl rfl rfl) kI
      ·exact oI rfl fun h => yl_assign rfl (h.dt 5 45 rfl rfl rfl) kI
      ·exact oI rfl fun _ => yl_assign rfl rfl kI
      ·intro fl181 fh182 L178 w179 hp180
       have hE183 := hp180.ex
       have hE183z := Ex.size hE183
       refine dn (CW.sub (Sub.cons (d := 6) (hp180.nt 6 6 rfl rfl rfl) (Sub.cons (d := 7) (hp180.nt 7 7 rfl rfl rfl) (Sub.cons (d := 8) (hp180.nt 8 8 rfl rfl rfl) (Sub.nil _)))) (CW.ret (rr rfl (.cons rfl (.cons rfl (.cons rfl .nil))) ?_)))
       have hM187 : (s_l25ReadEntry p_t p_name p_key) = ((((s_l1Split p_key 47).getD 1 d_Str), ((s_l1Split p_key 47).getD 2 d_Str), true)) := by simp only [s_l25ReadEntry, hb23, hb114, hb121, hb128, cL]
       rw [hM187]
       exact ⟨rfl, (okS_l1Split o5 _ _), (okS_l1Split o5 _ _), (Ex.trans (Ex.trans (Ex.trans (Ex.trans (Ex.trans (Ex.trans (Ex.refl w) hE16) hE20) hE109) hE120) hE127) hE183)⟩
     ·refine CW.cond_t rfl (not_f hb128) (CW.seq (CW.region (sd rfl (yl_assign rfl rfl (sd rfl (yl_assign rfl rfl (sd rfl (yl_assign rfl rfl (dn (CW.ret ?_))))))))))
      refine tr (rr rfl (.cons rfl (.cons rfl (.cons rfl .nil))) ?_)
      have hM194 : (s_l25ReadEntry p_t p_name p_key) = ((([] : Str), ([] : Str), false)) := by simp only [s_l25ReadEntry, hb23, hb114, hb121, hb128, cL]
      rw [hM194]
      exact ⟨rfl, (okS.lit rfl), (okS.lit rfl), (Ex.trans (Ex.trans (Ex.trans (Ex.trans (Ex.trans (Ex.refl w) hE16) hE20) hE109) hE120) hE127)⟩
    ·refine sz rfl rfl (not_f hb121) (sz rfl rfl (not_f hb121) (sz rfl rfl (not_f hb121) (sz rfl rfl (not_f hb121) (sz rfl rfl (not_f hb121) (sd rfl (yl_pick_t rfl rfl (not_f hb121) rfl (dn (CW.sub (Sub.cons (d := 9) hx110 (Sub.cons (d := 39) rfl (Sub.nil _))) ?_))))))))
     refine CW.cond_t rfl rfl (CW.seq (CW.region (sd rfl (yl_assign rfl rfl (sd rfl (yl_assign rfl rfl (sd rfl (yl_assign rfl rfl (dn (CW.ret ?_))))))))))
     refine tr (rr rfl (.cons rfl (.cons rfl (.cons rfl .nil))) ?_)
     have hM200 : (s_l25ReadEntry p_t p_name p_key) = ((([] : Str), ([] : Str), false)) := by simp only [s_l25ReadEntry, hb23, hb114, hb121, cL]
     rw [hM200]
     exact ⟨rfl, (okS.lit rfl), (okS.lit rfl), (Ex.trans (Ex.trans (Ex.trans (Ex.trans (Ex.refl w) hE16) hE20) hE109) hE120)⟩
   ·refine sz rfl rfl (not_f hb114) (sz rfl rfl (not_f hb114) (sz rfl rfl (not_f hb114) (sz rfl rfl (not_f hb114) (sz rfl rfl (not_f hb114) (sd rfl (yl_pick_t rfl rfl (not_f hb114) rfl (sd rfl (yl_move rfl rfl (sz rfl rfl rfl (sz rfl rfl rfl ?_))))))))))
    refine sz rfl rfl rfl (sz rfl rfl rfl (sz rfl rfl rfl (sd rfl (yl_pick_t rfl rfl rfl rfl (dn (CW.sub (Sub.cons (d := 9) hx110 (Sub.cons (d := 39) rfl (Sub.nil _))) (CW.cond_t rfl rfl (CW.seq ?_))))))))
    refine CW.region (sd rfl (yl_assign rfl rfl (sd rfl (yl_assign rfl rfl (sd rfl (yl_assign rfl rfl (dn (CW.ret (tr (rr rfl (.cons rfl (.cons rfl (.cons rfl .nil))) ?_))))))))))
    have hM205 : (s_l25ReadEntry p_t p_name p_key) = ((([] : Str), ([] : Str), false)) := by simp only [s_l25ReadEntry, hb23, hb114, cL]
    rw [hM205]
    exact ⟨rfl, (okS.lit rfl), (okS.lit rfl), (Ex.trans (Ex.trans (Ex.trans (Ex.refl w) hE16) hE20) hE109)⟩
 ·have hb23p := dec_f hb23
  refine CW.drawsI 12 (vgetI ([.slice A18 ((s_l1Split p_key 47).length) c18, .int .i64 (((s_l1Split p_key 47).length : Int)), .bool (!(decide (((s_l1Split p_key 47).length : Int) = 3))), .bool (!(decide (((s_l1Split p_key 47).length : Int) = 3))), undef, undef, undef, undef, undef, undef, undef, undef].map DetI)) Tryz.follows rfl rfl rfl rfl rfl rfl (vgetI_stable (stD _)) ⟨?_, ?_, ?_, ?_, ?_, ?_, ?_, ?_, ?_, ?_, ?_, ?_, trivial⟩ ?_
  ·exact oI rfl fun h => yl_move rfl (h.old 9 _ rfl rfl) kI
  ·exact oI rfl fun h => yl_len un22 rfl (h.dt 0 12 rfl rfl rfl) kI
  ·exact oI rfl fun h => yl_neq rfl (h.dt 1 13 rfl rfl rfl) rfl kI
  ·exact oI rfl fun h => yl_move rfl (h.dt 2 14 rfl rfl rfl) kI
  ·exact oS rfl rfl rfl rfl rfl (not_f hb23)
  ·exact oS rfl rfl rfl rfl rfl (not_f hb23)
  ·exact oS rfl rfl rfl rfl rfl (not_f hb23)
  ·exact oS rfl rfl rfl rfl rfl (not_f hb23)
  ·exact oS rfl rfl rfl rfl rfl (not_f hb23)
  ·exact oS rfl rfl rfl rfl rfl (not_f hb23)
  ·exact oS rfl rfl rfl rfl rfl (not_f hb23)
  ·exact oS rfl rfl rfl rfl rfl (not_f hb23)
  ·intro fl272 fh273 L269 w270 hp271
   have hE274 := hp271.ex
   have hE274z := Ex.size hE274
   have hx276 := hp271.nt 3 15 rfl rfl rfl
   refine sz rfl hx276 (not_f hb23) (sd rfl (yl_pick_t rfl hx276 (not_f hb23) rfl (sd rfl (yl_move rfl rfl (sz rfl rfl rfl (sz rfl rfl rfl (sz rfl rfl rfl (sz rfl rfl rfl (sz rfl rfl rfl (sd rfl (yl_pick_t rfl rfl rfl rfl ?_)))))))))))
   refine sd rfl (yl_move rfl rfl (sz rfl rfl rfl (sz rfl rfl rfl (sz rfl rfl rfl (sz rfl rfl rfl (sz rfl rfl rfl (sd rfl (yl_pick_t rfl rfl rfl rfl (dn ?_)))))))))
   refine CW.sub (Sub.cons (d := 9) (hp271.old 9 _ rfl rfl) (Sub.cons (d := 39) rfl (Sub.nil _))) (CW.cond_t rfl rfl (CW.seq (CW.region (sd rfl (yl_assign rfl rfl (sd rfl (yl_assign rfl rfl (sd rfl (yl_assign rfl rfl (dn ?_))))))))))
   refine CW.ret (tr (rr rfl (.cons rfl (.cons rfl (.cons rfl .nil))) ?_))
   have hM279 : (s_l25ReadEntry p_t p_name p_key) = ((([] : Str), ([] : Str), false)) := by simp only [s_l25ReadEntry, hb23, cL]
   rw [hM279]
   exact ⟨rfl, (okS.lit rfl), (okS.lit rfl), (Ex.trans (Ex.trans (Ex.trans (Ex.refl w) hE16) hE20) hE274)⟩
theorem c_s_l25Entries {A1 : Option Addr} {c1 : Nat} {A2 : Option Addr} {c2 : Nat} {A5 : Option Addr} {c5 : Nat} {w : World} (p_t : DTable) (p_name : Str) (p_store : List DWrite) (h1 : RdS w (Iv 0 w.heap.size) (RF e_Str) 1 A1 p_t.Cols.length c1 p_t.Cols) (h2 : RdS w (Iv 0 w.heap.size) (RF e_Idx) 3 A2 p_t.Idxs.length c2 p_t.Idxs) (h5 : RdS w (Iv 0 w.heap.size) (RF e_Write) 3 A5 p_store.length c5 p_store) (o3 : ok_Table p_t) (o4 : okS p_name) (o6 : (okL ok_Write) p_store) : Cal Tryz.prog 26 #[.agg #[.string (bs (p_t.Name)), .slice A1 p_t.Cols.length c1, .slice A2 p_t.Idxs.length c2], .string (bs (p_name)), .slice A5 p_store.length c5] w fun v w' => ∃ A_1 c_1 lo_1 hi_1, v = .slice A_1 ((s_l25Entries p_t p_name p_store).length) c_1 ∧ OwnL w' lo_1 hi_1 9 1 (RF e_Str) A_1 ((s_l25Entries p_t p_name p_store).length) c_1 (s_l25Entries p_t p_name p_store) ∧ (okL okS) (s_l25Entries p_t p_name p_store) ∧ (w.heap.size ≤ lo_1 ∧ lo_1 ≤ hi_1 ∧ hi_1 ≤ w'.heap.size) ∧ Ex w w' := by
 have hol7 : p_t.Name.length ≤ 1073741824 := o3.1
 have hol8 := o3.2.1.1
 have hol9 := o3.2.2.1
 have hol10 : p_name.length ≤ 1073741824 := o4
 have hol11 := o6.1
 refine Cal.of func26 rfl ntmps26 rfl (CW.seq (CW.region (sd rfl (yl_box rfl rfl rfl ?_))))
 intro b12 w13 hs14 hz15 hB16 hE17
 refine sd rfl (yl_assign rfl rfl (dn (CW.seq (CW.region (sd rfl (yl_assign rfl rfl (dn (CW.seq ?_))))))))
 refine CW.seq (CW.region (sd rfl (yl_move rfl rfl (sd rfl (yl_len un35 rfl rfl (sd rfl (yl_move rfl rfl (dn (CW.block (CW.loop (fun m84 L85 w86 => ∃ (k18 : Nat) (x80 : List Str) (A81 : Option Addr) (c82 : Nat) (u83 : Nat), m84 = p_store.length - k18 ∧ k18 ≤ p_store.length ∧ w13.heap.size ≤ w86.heap.size ∧ lkp L85 1 = some (.string (bs (p_name))) ∧ lkp L85 3 = some (.pointer (some ⟨b12, 0, none⟩)) ∧ lkp L85 7 = some (.slice A81 x80.length c82) ∧ lkp L85 13 = some (.slice A5 p_store.length c5) ∧ lkp L85 14 = some (.int .i64 ((p_store.length : Int))) ∧ lkp L85 15 = some (.int .i64 ((k18 : Int))) ∧ Box w86 b12 33 [.string (bs (p_t.Name)), .slice A1 p_t.Cols.length c1, .slice A2 p_t.Idxs.length c2] ∧ RdS w86 (Iv 0 w.heap.size) (RF e_Str) 1 A1 p_t.Cols.length c1 p_t.Cols ∧ RdS w86 (Iv 0 w.heap.size) (RF e_Idx) 3 A2 p_t.Idxs.length c2 p_t.Idxs ∧ OwnL w86 w13.heap.size u83 9 1 (RF e_Str) A81 x80.length c82 x80 ∧ RdS w86 (Iv 0 w.heap.size) (RF e_Write) 3 A5 p_store.length c5 p_store ∧ Ex w w86 ∧ (w13.heap.size ≤ u83 ∧ u83 ≤ w86.heap.size) ∧ x80.length ≤ 0 + 1 * (k18 - 0) ∧ (∀ y ∈ x80, okS y) ∧ loopM (B_s_l25Entries_0 p_t p_name p_store) (p_store.length - k18) k18 (x80) = loopM (B_s_l25Entries_0 p_t p_name p_store) (p_store.length - 0) 0 (([] : List Str))) (p_store.length - 0) ?_ ?_))))))))))
 ·exact ⟨0, ([] : List Str), none, 0, w13.heap.size, rfl, (by omega), Nat.le_refl _, rfl, rfl, rfl, rfl, rfl, rfl, hB16, (RdS.ex good_Str h1 hE17), (RdS.ex good_Idx h2 hE17), (OwnL.nil w13 w13.heap.size w13.heap.size 9 1 (RF e_Str)), (RdS.ex good_Write h5 hE17), (Ex.trans (Ex.refl w) hE17), (by omega), (by first | (simp; done) | (first | omega | (simp only [List.length_append, List.length_cons, List.length_nil, List.length_set, toS_length]; omega))), okE.nil, rfl⟩
 ·rintro m91 L92 w93 ⟨k18, x80, A81, c82, u83, rfl, hk94, hsz96, hl97, hl98, hl99, hl100, hl101, hl102, hf103, hf104, hf105, hf106, hf107, hf108, hu109, hln110, hok111, hI95⟩
  refine CW.sub (Sub.cons hl97 (Sub.cons hl98 (Sub.cons hl99 (Sub.cons hl100 (Sub.cons hl101 (Sub.cons hl102 (Sub.nil _))))))) ?_
  have hf103z := Box.lt hf103
  have hf108z := Ex.size hf108
  have hbg112 := RdS.big hf107
  rcases Nat.lt_or_ge k18 p_store.length with hlt113 | hlt113
  ·refine CW.seq (CW.region (sd rfl (yl_lss rfl rfl rfl (dn (CW.seq (CW.cond_t rfl (lt_t hlt113) (CW.skip (tn ?_))))))))
   refine CW.seq (CW.block (CW.seq (CW.region ?_)))
   obtain ⟨eb114, eo114, _, eA114, _, ebl114, _, eR114, eC114⟩ := RdS.aD hf107 d_Write (i := k18)
   obtain rfl := eR114
   have eC114 : Cells w93 eb114 (eo114 + k18 * 3) [.string (bs ((p_store.getD k18 d_Write).Key)), .string (bs ((p_store.getD k18 d_Write).Val)), .bool ((p_store.getD k18 d_Write).Gone)] := eC114
   refine sd rfl (yl_ixN un35 ty53 rfl rfl rfl eA114 (sd rfl (yl_loadN ty53 rfl rfl eC114 rfl (sd rfl (yl_alloc ty53 (cs := [.string (bs (([] : Str))), .string (bs (([] : Str))), .bool (false)]) rfl rfl ?_)))))
   intro b115 w116 hs117 hz118 hB119 hE120
   refine SeqR.u rfl rfl (yl_store (vs := [.string (bs ((p_store.getD k18 d_Write).Key)), .string (bs ((p_store.getD k18 d_Write).Val)), .bool ((p_store.getD k18 d_Write).Gone)]) ty53 rfl rfl rfl rfl rfl rfl hB119 (Nat.le_of_ble_eq_true rfl) ?_)
   intro w121 hB122 hO123
   have hB122 : Box w121 b115 53 [.string (bs ((p_store.getD k18 d_Write).Key)), .string (bs ((p_store.getD k18 d_Write).Val)), .bool ((p_store.getD k18 d_Write).Gone)] := hB122
   have hO123z := hO123.size
   refine dn (CW.seq (CW.region ?_))
   have q125 := Box.only (Box.ex hf103 hE120) hO123 (by omega)
   refine sd rfl (yl_loadN ty33 rfl rfl (q125.cells (n := 3) rfl) rfl (sd rfl (yl_move rfl rfl (sd rfl (yl_fieldAddr fd53_0 rfl rfl (sd rfl (yl_load1 ty9 rfl rfl ((hB122.cell 0).trans rfl) ?_)))))))
   have q127 := RdS.only good_Str (RdS.ex good_Str hf104 hE120) hO123 (by simp only [Iv]; omega)
   have q129 := RdS.only good_Idx (RdS.ex good_Idx hf105 hE120) hO123 (by simp only [Iv]; omega)
   refine sd rfl (yl_call en44 rfl (oc rfl (oc rfl (oc rfl oz))) (Cal.mono (c_s_l25ReadEntry p_t p_name ((p_store.getD k18 d_Write).Key) (RdS.up q127 good_Str) (RdS.up q129 good_Idx) o3 o4 ((okL.getD o6 ok_d_Write _).1)) ?_))
   rintro v133 w130 ⟨rfl, ho131, ho132, hE134⟩
   have hE134z := Ex.size hE134
   refine sd rfl (yl_move rfl rfl (sd rfl (yl_extract rfl rfl rfl (sd rfl (yl_extract rfl rfl rfl (sd rfl (yl_extract rfl rfl rfl (sd rfl (yl_assign rfl rfl (sd rfl (yl_assign rfl rfl (sd rfl (yl_assign rfl rfl (dn ?_))))))))))))))
   refine CW.seq (CW.region (sd rfl (yl_move rfl rfl (dn (bcase ((s_l25ReadEntry p_t p_name ((p_store.getD k18 d_Write).Key)).2.2) (fun hb135 => ?_) (fun hb135 => ?_))))))
   ·refine CW.cond_t rfl hb135 (CW.region (sd rfl (yl_move rfl rfl (sd rfl (yl_fieldAddr fd53_0 rfl rfl (sd rfl (yl_load1 ty9 rfl rfl (((Box.ex hB122 hE134).cell 0).trans rfl) (sd rfl (yl_buildSlice (cs := [.string (bs ((p_store.getD k18 d_Write).Key))]) un22 ty9 (by decide) rfl (oc rfl oz) (by kernel_rfl) ?_)))))))))
    intro b137 w138 hs139 hz140 hB141 hE142
    have hO143 : OwnL w138 b137 (b137 + 1) 9 1 (RF e_Str) (some ⟨b137, 0, none⟩) 1 1 ([(p_store.getD k18 d_Write).Key] : List Str) := OwnL.of_box (S := fun _ => False) hB141 (Nat.le_refl _) (Nat.lt_succ_self _) (EncL.cons (c := [.string (bs ((p_store.getD k18 d_Write).Key))]) rfl rfl EncL.nil) (Nat.le_of_ble_eq_true rfl) (fun h => h) (fun _ h => False.elim h)
    refine sd rfl (yl_appendL (S := (fun _ => False)) (lo := w13.heap.size) (hi := u83) (xs := x80) (ys := ([(p_store.getD k18 d_Write).Key] : List Str)) good_Str un22 ty9 rfl (Nat.le_of_ble_eq_true rfl) rfl rfl rfl (OwnL.ex good_Str (OwnL.ex good_Str (OwnL.only good_Str (OwnL.ex good_Str hf106 hE120) hO123 (by omega)) hE134) hE142) (EncL.cons (c := [.string (bs ((p_store.getD k18 d_Write).Key))]) rfl rfl EncL.nil) (Or.inr ⟨_, _, rfl, rfl, hB141.cells (o := 0) (n := 1) rfl⟩) rfl (by first | omega | (simp only [List.length_append, List.length_cons, List.length_nil, List.length_take, List.length_drop, List.length_replicate, List.length_set, toS_length]; omega)) (by first | omega | (simp only [List.length_append, List.length_cons, List.length_nil, List.length_take, List.length_drop, List.length_replicate, List.length_set, toS_length]; omega)) (by omega) (by omega) (fun _ h _ => False.elim h) (by omega) ?_)
    intro A148 c149 w150 row151 hO152 hG153 hrg154
    have hG153z := hG153.size
    refine sd rfl (yl_assign rfl rfl (SeqR.done (bn (tn (CW.region (sd rfl (yl_inc rfl rfl rfl (by omega) (sd rfl (yl_move rfl rfl (dn ?_))))))))))
    have hB155 : B_s_l25Entries_0 p_t p_name p_store k18 (x80) = .cont ((x80 ++ ([(p_store.getD k18 d_Write).Key] : List Str))) := by simp only [B_s_l25Entries_0, hb135, cL]
    exact ⟨p_store.length - (k18 + 1), by omega, k18 + 1, (x80 ++ ([(p_store.getD k18 d_Write).Key] : List Str)), A148, c149, w150.heap.size, rfl, hlt113, (by omega), rfl, rfl, rfl, rfl, rfl, rfl, (Box.grown (Box.ex (Box.ex q125 hE134) hE142) hG153 (fun k hk => by have := hrg154 k hk; omega)), (RdS.grown good_Str (RdS.ex good_Str (RdS.ex good_Str q127 hE134) hE142) hG153 (fun k hk => by have := hrg154 k hk; simp only [Iv]; omega)), (RdS.grown good_Idx (RdS.ex good_Idx (RdS.ex good_Idx q129 hE134) hE142) hG153 (fun k hk => by have := hrg154 k hk; simp only [Iv]; omega)), hO152, (RdS.grown good_Write (RdS.ex good_Write (RdS.ex good_Write (RdS.only good_Write (RdS.ex good_Write hf107 hE120) hO123 (by simp only [Iv]; omega)) hE134) hE142) hG153 (fun k hk => by have := hrg154 k hk; simp only [Iv]; omega)), (Below.grown (Ex.trans (Ex.trans (Below.only (Ex.trans hf108 hE120) hO123 (by omega)) hE134) hE142) hG153 (by omega) (fun k hk => by have := hrg154 k hk; omega)), (by omega), (by first | omega | (simp only [List.length_append, List.length_cons, List.length_nil, List.length_set, toS_length]; omega)), (okE.append hok111 ((okL.mk (Nat.le_of_ble_eq_true rfl) (okE.cons (okL.getD o6 ok_d_Write _).1 okE.nil))).2), (loopM.cont hlt113 hB155).symm.trans hI95⟩
   ·refine CW.cond_f rfl hb135 (CW.skip (bn (tn (CW.region (sd rfl (yl_inc rfl rfl rfl (by omega) (sd rfl (yl_move rfl rfl (dn ?_)))))))))
    have hB175 : B_s_l25Entries_0 p_t p_name p_store k18 (x80) = .cont (x80) := by simp only [B_s_l25Entries_0, hb135, cL]
    exact ⟨p_store.length - (k18 + 1), by omega, k18 + 1, x80, A81, c82, u83, rfl, hlt113, (by omega), rfl, rfl, rfl, rfl, rfl, rfl, (Box.ex q125 hE134), (RdS.ex good_Str q127 hE134), (RdS.ex good_Idx q129 hE134), (OwnL.ex good_Str (OwnL.only good_Str (OwnL.ex good_Str hf106 hE120) hO123 (by omega)) hE134), (RdS.ex good_Write (RdS.only good_Write (RdS.ex good_Write hf107 hE120) hO123 (by simp only [Iv]; omega)) hE134), (Ex.trans (Below.only (Ex.trans hf108 hE120) hO123 (by omega)) hE134), (by omega), (by first | omega | (simp only [List.length_append, List.length_cons, List.length_nil, List.length_set, toS_length]; omega)), hok111, (loopM.cont hlt113 hB175).symm.trans hI95⟩
  ·refine CW.seq (CW.region (sd rfl (yl_lss rfl rfl rfl (dn (CW.seq (CW.cond_f rfl (lt_f hlt113) (CW.exit (tx ?_))))))))
   refine tx ?_
   have hL188 : loopM (B_s_l25Entries_0 p_t p_name p_store) (p_store.length - 0) 0 (([] : List Str)) = .done (x80) := hI95.symm.trans (loopM.stop hlt113)
   refine bx (tn (CW.seq (CW.region (sd rfl (yl_move rfl rfl (sd rfl (yl_assign rfl rfl (dn (CW.ret ?_)))))))))
   refine rr rfl (.cons rfl .nil) ?_
   have hM189 : (s_l25Entries p_t p_name p_store) = (x80) := by simp only [s_l25Entries, hL188, cL]
   rw [hM189]
   exact ⟨A81, c82, w13.heap.size, u83, rfl, hf106, (okL.mk (xs := x80) (by first | omega | (simp only [List.length_append, List.length_cons, List.length_nil, List.length_take, List.length_drop, List.length_replicate, List.length_set, toS_length]; omega)) hok111), (by omega), hf108⟩
theorem c_s_OrphansIn {A1 : Option Addr} {c1 : Nat} {A2 : Option Addr} {c2 : Nat} {A5 : Option Addr} {c5 : Nat} {w : World} (p_t : DTable) (p_name : Str) (p_store : List DWrite) (h1 : RdS w (Iv 0 w.heap.size) (RF e_Str) 1 A1 p_t.Cols.length c1 p_t.Cols) (h2 : RdS w (Iv 0 w.heap.size) (RF e_Idx) 3 A2 p_t.Idxs.length c2 p_t.Idxs) (h5 : RdS w (Iv 0 w.heap.size) (RF e_Write) 3 A5 p_store.length c5 p_store) (o3 : ok_Table p_t) (o4 : okS p_name) (o6 : (okL ok_Write) p_store) : Cal Tryz.prog 18 #[.agg #[.string (bs (p_t.Name)), .slice A1 p_t.Cols.length c1, .slice A2 p_t.Idxs.length c2], .string (bs (p_name)), .slice A5 p_store.length c5] w fun v w' => ∃ A_1 c_1 lo_1 hi_1, v = .tuple #[.slice A_1 (((s_OrphansIn p_t p_name p_store).1).length) c_1, .bool ((s_OrphansIn p_t p_name p_store).2)] ∧ OwnL w' lo_1 hi_1 9 1 (RF e_Str) A_1 (((s_OrphansIn p_t p_name p_store).1).length) c_1 ((s_OrphansIn p_t p_name p_store).1) ∧ (okL okS) ((s_OrphansIn p_t p_name p_store).1) ∧ (w.heap.size ≤ lo_1 ∧ lo_1 ≤ hi_1 ∧ hi_1 ≤ w'.heap.size) ∧ Ex w w' := by
 have hol7 : p_t.Name.length ≤ 1073741824 := o3.1
 have hol8 := o3.2.1.1
 have hol9 := o3.2.2.1
 have hol10 : p_name.length ≤ 1073741824 := o4
 have hol11 := o6.1
 refine Cal.of func18 rfl ntmps18 rfl (CW.seq (CW.region (sd rfl (yl_box rfl rfl rfl ?_))))
 intro b12 w13 hs14 hz15 hB16 hE17
 refine sd rfl (yl_assign rfl rfl (sd rfl (yl_assign rfl rfl (dn (CW.seq (CW.seq (CW.region (sd rfl (yl_loadN ty33 rfl rfl (hB16.cells (n := 3) rfl) rfl (sd rfl (yl_move rfl rfl ?_)))))))))))
 refine sd rfl (yl_move rfl rfl ?_)
 have q18 := RdS.ex good_Str h1 hE17
 have q19 := RdS.ex good_Idx h2 hE17
 have q20 := RdS.ex good_Write h5 hE17
 refine sd rfl (yl_call en23 rfl (oc rfl (oc rfl (oc rfl oz))) (Cal.mono (c_s_l25Asked p_t p_name p_store (RdS.up q18 good_Str) (RdS.up q19 good_Idx) (RdS.up q20 good_Write) o3 o4 o6) ?_))
 rintro v22 w21 ⟨rfl, hE23⟩
 have hE23z := Ex.size hE23
 refine sd rfl (yl_not rfl rfl (dn (bcase (s_l25Asked p_t p_name p_store) (fun hb24 => ?_) (fun hb24 => ?_))))
 ·refine CW.cond_f rfl (not_t hb24) (CW.skip (tn (CW.seq ?_)))
  have q25 := Box.ex hB16 hE23
  have q26 := RdS.ex good_Str q18 hE23
  have q27 := RdS.ex good_Idx q19 hE23
  have q28 := RdS.ex good_Write q20 hE23
  refine CW.drawsI 7 (vgetI [DetI (.agg #[.string (bs (p_t.Name)), .slice A1 p_t.Cols.length c1, .slice A2 p_t.Idxs.length c2]), DetI (.string (bs (p_name))), DetI (.slice A5 p_store.length c5), fun lo hi v wq => ∃ A30 c30 lo30 hi30, v = .slice A30 ((s_l25Entries p_t p_name p_store).length) c30 ∧ OwnL wq lo30 hi30 9 1 (RF e_Str) A30 ((s_l25Entries p_t p_name p_store).length) c30 (s_l25Entries p_t p_name p_store) ∧ (okL okS) (s_l25Entries p_t p_name p_store) ∧ (lo ≤ lo30 ∧ lo30 ≤ hi30 ∧ hi30 ≤ hi), DetI (.agg #[.string (bs (p_t.Name)), .slice A1 p_t.Cols.length c1, .slice A2 p_t.Idxs.length c2]), DetI (.string (bs (p_name))), DetI (.slice A5 p_store.length c5)]) Tryz.follows rfl rfl rfl rfl rfl rfl (vgetI_stable ⟨StableI.det _, StableI.det _, StableI.det _, (fun _ _ _ _ _ ⟨A30, c30, lo30, hi30, hv, h30, ho31, hr0⟩ e => ⟨A30, c30, lo30, hi30, hv, OwnL.ex good_Str h30 e, ho31, hr0⟩), StableI.det _, StableI.det _, StableI.det _, trivial⟩) ⟨?_, ?_, ?_, ?_, ?_, ?_, ?_, trivial⟩ ?_
  ·exact oI rfl fun h => yl_loadN ty33 rfl (h.old 3 _ rfl rfl) ((Box.ex q25 h.ex).cells (n := 3) rfl) rfl kI
  ·exact oI rfl fun h => yl_move rfl (h.old 1 _ rfl rfl) kI
  ·exact oI rfl fun h => yl_move rfl (h.old 2 _ rfl rfl) kI
  ·intro L48 w49 hi50
   have hE51 := hi50.ex
   refine OpR.op' rfl (yl_call en26 rfl (oc (hi50.dt 0 13 rfl rfl rfl) (oc (hi50.dt 1 14 rfl rfl rfl) (oc (hi50.dt 2 15 rfl rfl rfl) oz))) (Cal.mono (c_s_l25Entries p_t p_name p_store (RdS.up (RdS.ex good_Str q26 hE51) good_Str) (RdS.up (RdS.ex good_Idx q27 hE51) good_Idx) (RdS.up (RdS.ex good_Write q28 hE51) good_Write) o3 o4 o6) ?_))
   rintro v61 w58 ⟨A59, c59, lo59, hi59, rfl, h59, ho60, hrn63, hE62⟩
   exact ⟨⟨A59, c59, lo59, hi59, rfl, h59, ho60, hrn63⟩, hE62⟩
  ·exact oI rfl fun h => yl_loadN ty33 rfl (h.old 3 _ rfl rfl) ((Box.ex q25 h.ex).cells (n := 3) rfl) rfl kI
  ·exact oI rfl fun h => yl_move rfl (h.old 1 _ rfl rfl) kI
  ·exact oI rfl fun h => yl_move rfl (h.old 2 _ rfl rfl) kI
  ·intro fl83 fh84 L80 w81 hp82
   have hE85 := hp82.ex
   have hE85z := Ex.size hE85
   have hr87 := hp82.rng 3 rfl
   obtain ⟨_, hx86, A30_88, c30_89, lo30_90, hi30_91, rfl, h92, h93, hrn94⟩ := hp82.new 3 16 rfl rfl
   refine sd rfl (yl_call en25 rfl (oc (hp82.nt 4 17 rfl rfl rfl) (oc (hp82.nt 5 18 rfl rfl rfl) (oc (hp82.nt 6 19 rfl rfl rfl) oz))) (Cal.mono (c_s_l25Wanted p_t p_name p_store (RdS.up (RdS.ex good_Str q26 hE85) good_Str) (RdS.up (RdS.ex good_Idx q27 hE85) good_Idx) (RdS.up (RdS.ex good_Write q28 hE85) good_Write) o3 o4 o6 (asked_good hb24) (asked_idx hb24)) ?_))
   rintro v104 w101 ⟨A102, c102, lo102, hi102, rfl, h102, ho103, hrn106, hE105⟩
   have hE105z := Ex.size hE105
   refine sd rfl (yl_call en24 rfl (oc hx86 (oc rfl oz)) (Cal.mono (c_s_l25Less (s_l25Entries p_t p_name p_store) (s_l25Wanted p_t p_name p_store) (RdS.up (OwnL.rd good_Str (OwnL.ex good_Str h92 hE105)) good_Str) (RdS.up (OwnL.rd good_Str h102) good_Str) h93 ho103) ?_))
   rintro v113 w110 ⟨A111, c111, lo111, hi111, rfl, h111, ho112, hrn115, hE114⟩
   have hE114z := Ex.size hE114
   refine sd rfl (yl_assign rfl rfl (sd rfl (yl_assign rfl rfl (dn (CW.sub (Sub.cons (d := 6) rfl (Sub.cons (d := 7) rfl (Sub.nil _))) (CW.ret (rr rfl (.cons rfl (.cons rfl .nil)) ?_)))))))
   have hM116 : (s_OrphansIn p_t p_name p_store) = (((s_l25Less (s_l25Entries p_t p_name p_store) (s_l25Wanted p_t p_name p_store)), true)) := by simp only [s_OrphansIn, hb24, cL]
   rw [hM116]
   exact ⟨A111, c111, lo111, hi111, rfl, h111, ho112, (by omega), (Ex.trans (Ex.trans (Ex.trans (Ex.trans (Ex.trans (Ex.refl w) hE17) hE23) hE85) hE105) hE114)⟩
 ·refine CW.cond_t rfl (not_f hb24) (CW.seq (CW.region (sd rfl (yl_assign rfl rfl (sd rfl (yl_assign rfl rfl (dn (CW.ret (tr ?_)))))))))
  refine rr rfl (.cons rfl (.cons rfl .nil)) ?_
  have hM122 : (s_OrphansIn p_t p_name p_store) = ((([] : List Str), false)) := by simp only [s_OrphansIn, hb24, cL]
  rw [hM122]
  exact ⟨none, 0, w21.heap.size, w21.heap.size, rfl, (OwnL.nil _ _ _ _ _ _), (okL.nil _), (by omega), (Ex.trans (Ex.trans (Ex.refl w) hE17) hE23)⟩
theorem c_g_slices_Index_string {A1 : Option Addr} {c1 : Nat} {w : World} (p_s : List Str) (p_v : Str) (h1 : RdS w (Iv 0 w.heap.size) (RF e_Str) 1 A1 p_s.length c1 p_s) (o2 : (okL okS) p_s) (o3 : okS p_v) : Cal Tryz.prog 86 #[.slice A1 p_s.length c1, .string (bs (p_v))] w fun v w' => v = .int .i64 ((g_slices_Index_string p_s p_v)) ∧ Ex w w' := by
 have hol4 := o2.1
 have hol5 : p_v.length ≤ 1073741824 := o3
 refine Cal.of func86 rfl ntmps86 rfl (CW.seq (CW.region (sd rfl (yl_assign rfl rfl (dn (CW.seq (CW.seq (CW.region ?_))))))))
 refine sd rfl (yl_move rfl rfl (sd rfl (yl_len un22 rfl rfl (sd rfl (yl_move rfl rfl (dn (CW.block (CW.loop (fun m7 L8 w9 => ∃ (k6 : Nat), m7 = p_s.length - k6 ∧ k6 ≤ p_s.length ∧ w.heap.size ≤ w9.heap.size ∧ lkp L8 0 = some (.slice A1 p_s.length c1) ∧ lkp L8 1 = some (.string (bs (p_v))) ∧ lkp L8 7 = some (.int .i64 ((p_s.length : Int))) ∧ lkp L8 8 = some (.int .i64 ((k6 : Int))) ∧ RdS w9 (Iv 0 w.heap.size) (RF e_Str) 1 A1 p_s.length c1 p_s ∧ Ex w w9 ∧ loopM (B_g_slices_Index_string_0 p_s p_v) (p_s.length - k6) k6 () = loopM (B_g_slices_Index_string_0 p_s p_v) (p_s.length - 0) 0 ()) (p_s.length - 0) ?_ ?_))))))))
 ·exact ⟨0, rfl, (by omega), Nat.le_refl _, rfl, rfl, rfl, rfl, h1, (Ex.refl w), rfl⟩
 ·rintro m10 L11 w12 ⟨k6, rfl, hk13, hsz15, hl16, hl17, hl18, hl19, hf20, hf21, hI14⟩
  refine CW.sub (Sub.cons hl16 (Sub.cons hl17 (Sub.cons hl18 (Sub.cons hl19 (Sub.nil _))))) ?_
  have hf21z := Ex.size hf21
  have hbg22 := RdS.big hf20
  rcases Nat.lt_or_ge k6 p_s.length with hlt23 | hlt23
  ·refine CW.seq (CW.region (sd rfl (yl_lss rfl rfl rfl (dn (CW.seq (CW.cond_t rfl (lt_t hlt23) (CW.skip (tn ?_))))))))
   refine CW.seq (CW.block (CW.seq (CW.region (sd rfl (yl_move rfl rfl (sd rfl (yl_assign rfl rfl (dn (CW.seq ?_)))))))))
   refine CW.region (sd rfl (yl_move rfl rfl (sd rfl (yl_move rfl rfl (sd rfl (yl_move rfl rfl ?_))))))
   obtain ⟨eb24, eo24, _, eA24, _, ebl24, _, eR24, eC24⟩ := RdS.aD hf20 d_Str (i := k6)
   obtain rfl := eR24
   have eC24 : Cells w12 eb24 (eo24 + k6 * 1) [.string (bs ((p_s.getD k6 d_Str)))] := eC24
   refine sd rfl (yl_ixN un22 ty9 rfl rfl rfl eA24 (sd rfl (yl_load1 ty9 rfl rfl (eC24 0 _ rfl) (sd rfl (yl_seql (a := p_v) (b := (p_s.getD k6 d_Str)) rfl rfl rfl (dn (bcase (p_v == (p_s.getD k6 d_Str)) (fun hb25 => ?_) (fun hb25 => ?_))))))))
   ·refine CW.cond_t rfl hb25 (CW.seq (CW.region (sd rfl (yl_move rfl rfl (sd rfl (yl_assign rfl rfl (dn (CW.ret (br ?_)))))))))
    refine tr (tr ?_)
    have hB27 : B_g_slices_Index_string_0 p_s p_v k6 () = .ret (k6 : Int) := by simp only [B_g_slices_Index_string_0, hb25, cL]
    have hL26 : loopM (B_g_slices_Index_string_0 p_s p_v) (p_s.length - 0) 0 () = .ret (k6 : Int) := hI14.symm.trans (loopM.ret hlt23 hB27)
    refine br (tr (rr rfl (.cons rfl .nil) ?_))
    have hM28 : (g_slices_Index_string p_s p_v) = ((k6 : Int)) := by simp only [g_slices_Index_string, hb25, hL26, cL]
    rw [hM28]
    exact ⟨rfl, hf21⟩
   ·refine CW.cond_f rfl hb25 (CW.skip (bn (tn (CW.region (sd rfl (yl_inc rfl rfl rfl (by omega) (sd rfl (yl_move rfl rfl (dn ?_)))))))))
    have hB29 : B_g_slices_Index_string_0 p_s p_v k6 () = .cont () := by simp only [B_g_slices_Index_string_0, hb25, cL]
    exact ⟨p_s.length - (k6 + 1), by omega, k6 + 1, rfl, hlt23, (by omega), rfl, rfl, rfl, rfl, hf20, hf21, (loopM.cont hlt23 hB29).symm.trans hI14⟩
  ·refine CW.seq (CW.region (sd rfl (yl_lss rfl rfl rfl (dn (CW.seq (CW.cond_f rfl (lt_f hlt23) (CW.exit (tx ?_))))))))
   refine tx ?_
   have hL30 : loopM (B_g_slices_Index_string_0 p_s p_v) (p_s.length - 0) 0 () = .done () := hI14.symm.trans (loopM.stop hlt23)
   refine bx (tn (CW.seq (CW.region (sd rfl (yl_assign rfl rfl (dn (CW.ret (rr rfl (.cons rfl .nil) ?_))))))))
   have hM31 : (g_slices_Index_string p_s p_v) = (-1) := by simp only [g_slices_Index_string, hL30, cL]
   rw [hM31]
   exact ⟨rfl, hf21⟩
theorem c_g_slices_Contains_string {A1 : Option Addr} {c1 : Nat} {w : World} (p_s : List Str) (p_v : Str) (h1 : RdS w (Iv 0 w.heap.size) (RF e_Str) 1 A1 p_s.length c1 p_s) (o2 : (okL okS) p_s) (o3 : okS p_v) : Cal Tryz.prog 67 #[.slice A1 p_s.length c1, .string (bs (p_v))] w fun v w' => v = .bool ((g_slices_Contains_string p_s p_v)) ∧ Ex w w' := by
 refine Cal.of func67 rfl ntmps67 rfl (CW.seq (CW.region (sd rfl (yl_assign rfl rfl (dn (CW.seq (CW.region (sd rfl (yl_move rfl rfl ?_)))))))))
 refine sd rfl (yl_move rfl rfl (sd rfl (yl_call en86 rfl (oc rfl (oc rfl oz)) (Cal.mono (c_g_slices_Index_string p_s p_v (RdS.up h1 good_Str) o2 o3) ?_))))
 rintro v7 w6 ⟨rfl, hE8⟩
 refine sd rfl (yl_geq rfl rfl rfl (sd rfl (yl_assign rfl rfl (dn (CW.ret (rr rfl (.cons rfl .nil) ?_))))))
 have hM9 : (g_slices_Contains_string p_s p_v) = (decide (0 ≤ (g_slices_Index_string p_s p_v))) := by simp only [g_slices_Contains_string, cL]
 rw [hM9]
 exact ⟨rfl, (Ex.trans (Ex.refl w) hE8)⟩
theorem c_i_within {w : World} (p_n : Int) (p_low : Int) (p_high : Int) : Cal Tryz.prog 76 #[.int .i64 (p_n), .int .i64 (p_low), .int .i64 (p_high)] w fun v w' => v = .bool ((i_within p_n p_low p_high)) ∧ Ex w w' := by
 refine Cal.of func76 rfl ntmps76 rfl (CW.seq (CW.region (sd rfl (yl_assign rfl rfl (dn (CW.seq (CW.region (sd rfl (yl_move rfl rfl ?_)))))))))
 refine sd rfl (yl_move rfl rfl (sd rfl (yl_geq rfl rfl rfl (sd rfl (yl_move rfl rfl (bcase (decide (p_low ≤ p_n)) (fun hb1 => ?_) (fun hb1 => ?_)))))))
 ·have hb1p := dec_t hb1
  refine sy rfl rfl hb1 (yl_move rfl rfl (sy rfl rfl hb1 (yl_move rfl rfl (sy rfl rfl hb1 (yl_leq rfl rfl rfl (sd rfl (yl_pick_t rfl rfl hb1 rfl (sd rfl (yl_assign rfl rfl (dn (CW.ret (rr rfl (.cons rfl .nil) ?_))))))))))))
  have hM2 : (i_within p_n p_low p_high) = (decide (p_n ≤ p_high)) := by simp only [i_within, hb1, cL]
  rw [hM2]
  exact ⟨rfl, (Ex.refl w)⟩
 ·have hb1p := dec_f hb1
  refine sz rfl rfl hb1 (sz rfl rfl hb1 (sz rfl rfl hb1 (sd rfl (yl_pick_f rfl rfl hb1 rfl (sd rfl (yl_assign rfl rfl (dn (CW.ret (rr rfl (.cons rfl .nil) ?_)))))))))
  have hM3 : (i_within p_n p_low p_high) = (false) := by simp only [i_within, hb1, cL]
  rw [hM3]
  exact ⟨rfl, (Ex.refl w)⟩
theorem c_i_areLetters {w : World} (p_s : Str) (p_most : Int) (o1 : okS p_s) : Cal Tryz.prog 75 #[.string (bs (p_s)), .int .i64 (p_most)] w fun v w' => v = .bool ((i_areLetters p_s p_most)) ∧ Ex w w' := by
 have hol2 : p_s.length ≤ 1073741824 := o1
 refine Cal.of func75 rfl ntmps75 rfl (CW.seq (CW.region (sd rfl (yl_assign rfl rfl (dn (CW.seq (CW.seq (CW.region ?_))))))))
 refine sd rfl (yl_move rfl rfl (sd rfl (yl_slen un9 (a := p_s) rfl rfl (sd rfl (yl_move rfl rfl (dn (CW.block (CW.loop (fun m4 L5 w6 => ∃ (k3 : Nat), m4 = p_s.length - k3 ∧ k3 ≤ p_s.length ∧ w.heap.size ≤ w6.heap.size ∧ lkp L5 0 = some (.string (bs (p_s))) ∧ lkp L5 1 = some (.int .i64 (p_most)) ∧ lkp L5 7 = some (.int .i64 ((p_s.length : Int))) ∧ lkp L5 8 = some (.int .i64 ((k3 : Int))) ∧ Ex w w6 ∧ loopM (B_i_areLetters_0 p_s p_most) (p_s.length - k3) k3 () = loopM (B_i_areLetters_0 p_s p_most) (p_s.length - 0) 0 ()) (p_s.length - 0) ?_ ?_))))))))
 ·exact ⟨0, rfl, (by omega), Nat.le_refl _, rfl, rfl, rfl, rfl, (Ex.refl w), rfl⟩
 ·rintro m7 L8 w9 ⟨k3, rfl, hk10, hsz12, hl13, hl14, hl15, hl16, hf17, hI11⟩
  refine CW.sub (Sub.cons hl13 (Sub.cons hl14 (Sub.cons hl15 (Sub.cons hl16 (Sub.nil _))))) ?_
  have hf17z := Ex.size hf17
  have hbg18 : p_s.length ≤ 1073741824 := o1
  rcases Nat.lt_or_ge k3 p_s.length with hlt19 | hlt19
  ·refine CW.seq (CW.region (sd rfl (yl_lss rfl rfl rfl (dn (CW.seq (CW.cond_t rfl (lt_t hlt19) (CW.skip (tn ?_))))))))
   refine CW.seq (CW.block (CW.seq (CW.region (sd rfl (yl_move rfl rfl (sd rfl (yl_assign rfl rfl (dn (CW.seq ?_)))))))))
   refine CW.region (sd rfl (yl_move rfl rfl (sd rfl (yl_move rfl rfl (sd rfl (yl_sindexN un9 (a := p_s) rfl rfl rfl (by first | omega | assumption | (simp only [wI] at *; omega)) (sd rfl (yl_lss rfl rfl rfl (sd rfl (yl_move rfl rfl (bcase (decide (((p_s.getD k3 0).toNat : Int) < 97)) (fun hb20 => ?_) (fun hb20 => ?_))))))))))))
   ·have hb20p := dec_t hb20
    refine sz rfl rfl hb20 (sz rfl rfl hb20 (sz rfl rfl hb20 (sz rfl rfl hb20 (sd rfl (yl_pick_t rfl rfl hb20 rfl (dn (CW.cond_t rfl rfl (CW.seq ?_))))))))
    refine CW.region (sd rfl (yl_assign rfl rfl (dn (CW.ret (br (tr (tr ?_)))))))
    have hB22 : B_i_areLetters_0 p_s p_most k3 () = .ret false := by simp only [B_i_areLetters_0, hb20, cL]
    have hL21 : loopM (B_i_areLetters_0 p_s p_most) (p_s.length - 0) 0 () = .ret false := hI11.symm.trans (loopM.ret hlt19 hB22)
    refine br (tr (rr rfl (.cons rfl .nil) ?_))
    have hM23 : (i_areLetters p_s p_most) = (false) := by simp only [i_areLetters, hb20, hL21, cL]
    rw [hM23]
    exact ⟨rfl, hf17⟩
   ·have hb20p := dec_f hb20
    refine sy rfl rfl hb20 (yl_move rfl rfl (sy rfl rfl hb20 (yl_move rfl rfl (sy rfl rfl hb20 (yl_sindexN un9 (a := p_s) rfl rfl rfl (by first | omega | assumption | (simp only [wI] at *; omega)) (sy rfl rfl hb20 (yl_gtr rfl rfl rfl (sd rfl (yl_pick_f rfl rfl hb20 rfl (dn (bcase (decide (122 < ((p_s.getD k3 0).toNat : Int))) (fun hb24 => ?_) (fun hb24 => ?_))))))))))))
    ·have hb24p := dec_t hb24
     refine CW.cond_t rfl hb24 (CW.seq (CW.region (sd rfl (yl_assign rfl rfl (dn (CW.ret (br (tr ?_))))))))
     refine tr ?_
     have hB26 : B_i_areLetters_0 p_s p_most k3 () = .ret false := by simp only [B_i_areLetters_0, hb20, hb24, cL]
     have hL25 : loopM (B_i_areLetters_0 p_s p_most) (p_s.length - 0) 0 () = .ret false := hI11.symm.trans (loopM.ret hlt19 hB26)
     refine br (tr (rr rfl (.cons rfl .nil) ?_))
     have hM27 : (i_areLetters p_s p_most) = (false) := by simp only [i_areLetters, hb20, hb24, hL25, cL]
     rw [hM27]
     exact ⟨rfl, hf17⟩
    ·have hb24p := dec_f hb24
     refine CW.cond_f rfl hb24 (CW.skip (bn (tn (CW.region (sd rfl (yl_inc rfl rfl rfl (by omega) (sd rfl (yl_move rfl rfl (dn ?_)))))))))
     have hB28 : B_i_areLetters_0 p_s p_most k3 () = .cont () := by simp only [B_i_areLetters_0, hb20, hb24, cL]
     exact ⟨p_s.length - (k3 + 1), by omega, k3 + 1, rfl, hlt19, (by omega), rfl, rfl, rfl, rfl, hf17, (loopM.cont hlt19 hB28).symm.trans hI11⟩
  ·refine CW.seq (CW.region (sd rfl (yl_lss rfl rfl rfl (dn (CW.seq (CW.cond_f rfl (lt_f hlt19) (CW.exit (tx ?_))))))))
   refine tx ?_
   have hL29 : loopM (B_i_areLetters_0 p_s p_most) (p_s.length - 0) 0 () = .done () := hI11.symm.trans (loopM.stop hlt19)
   refine bx (tn (CW.seq (CW.region (sd rfl (yl_move rfl rfl (sd rfl (yl_slen un9 (a := p_s) rfl rfl (sd rfl (yl_move rfl rfl (sd rfl (yl_call en76 rfl (oc rfl (oc rfl (oc rfl oz))) (Cal.mono (c_i_within (p_s.length : Int) 1 p_most) ?_))))))))))))
   rintro v31 w30 ⟨rfl, hE32⟩
   have hE32z := Ex.size hE32
   refine sd rfl (yl_assign rfl rfl (dn (CW.ret (rr rfl (.cons rfl .nil) ?_))))
   have hM33 : (i_areLetters p_s p_most) = ((i_within (p_s.length : Int) 1 p_most)) := by simp only [i_areLetters, hL29, cL]
   rw [hM33]
   exact ⟨rfl, (Ex.trans hf17 hE32)⟩
theorem c_i_isStage {w : World} (p_stage : Int) : Cal Tryz.prog 77 #[.int .i64 (p_stage)] w fun v w' => v = .bool ((i_isStage p_stage)) ∧ Ex w w' := by
 refine Cal.of func77 rfl ntmps77 rfl (CW.seq (CW.region (sd rfl (yl_assign rfl rfl (dn (CW.seq (CW.region (sd rfl (yl_move rfl rfl ?_)))))))))
 refine sd rfl (yl_call en76 rfl (oc rfl (oc rfl (oc rfl oz))) (Cal.mono (c_i_within p_stage 0 3) ?_))
 rintro v2 w1 ⟨rfl, hE3⟩
 refine sd rfl (yl_assign rfl rfl (dn (CW.ret (rr rfl (.cons rfl .nil) ?_))))
 have hM4 : (i_isStage p_stage) = ((i_within p_stage 0 3)) := by simp only [i_isStage, cL]
 rw [hM4]
 exact ⟨rfl, (Ex.trans (Ex.refl w) hE3)⟩
theorem c_i_GoodTable {A1 : Option Addr} {c1 : Nat} {A2 : Option Addr} {c2 : Nat} {w : World} (p_0 : DTable) (h1 : RdS w (Iv 0 w.heap.size) (RF e_Str) 1 A1 p_0.Cols.length c1 p_0.Cols) (h2 : RdS w (Iv 0 w.heap.size) (RF e_Idx) 3 A2 p_0.Idxs.length c2 p_0.Idxs) (o3 : ok_Table p_0) : Cal Tryz.prog 59 #[.agg #[.string (bs (p_0.Name)), .slice A1 p_0.Cols.length c1, .slice A2 p_0.Idxs.length c2]] w fun v w' => v = .bool ((i_GoodTable p_0)) ∧ Ex w w' := by
 have hol4 : p_0.Name.length ≤ 1073741824 := o3.1
 have hol5 := o3.2.1.1
 have hol6 := o3.2.2.1
 refine Cal.of func59 rfl ntmps59 rfl (CW.seq (CW.region (sd rfl (yl_box rfl rfl rfl ?_))))
 intro b7 w8 hs9 hz10 hB11 hE12
 refine sd rfl (yl_assign rfl rfl (dn (CW.seq (CW.seq (CW.region (sd rfl (yl_fieldAddr fd33_0 rfl rfl (sd rfl (yl_load1 ty9 rfl rfl ((hB11.cell 0).trans rfl) (sd rfl (yl_call en75 rfl (oc rfl (oc rfl oz)) (Cal.mono (c_i_areLetters p_0.Name 1 o3.1) ?_))))))))))))
 rintro v14 w13 ⟨rfl, hE15⟩
 have hE15z := Ex.size hE15
 refine sd rfl (yl_not rfl rfl (sd rfl (yl_move rfl rfl (bcase (i_areLetters p_0.Name 1) (fun hb16 => ?_) (fun hb16 => ?_)))))
 ·refine sy rfl rfl (not_t hb16) (yl_fieldAddr fd33_1 rfl rfl ?_)
  have q17 := Box.ex hB11 hE15
  refine sy rfl rfl (not_t hb16) (yl_load1 ty22 rfl rfl ((q17.cell 1).trans rfl) (sy rfl rfl (not_t hb16) (yl_len un22 rfl rfl (sy rfl rfl (not_t hb16) (yl_call en76 rfl (oc rfl (oc rfl (oc rfl oz))) (Cal.mono (c_i_within (p_0.Cols.length : Int) 2 4) ?_))))))
  rintro v19 w18 ⟨rfl, hE20⟩
  have hE20z := Ex.size hE20
  refine sy rfl rfl (not_t hb16) (yl_not rfl rfl (sd rfl (yl_pick_f rfl rfl (not_t hb16) rfl (sd rfl (yl_move rfl rfl (bcase (i_within (p_0.Cols.length : Int) 2 4) (fun hb21 => ?_) (fun hb21 => ?_)))))))
  ·have hb21p := f_within hb21
   refine sy rfl rfl (not_t hb21) (yl_fieldAddr fd33_2 rfl rfl ?_)
   have q22 := Box.ex q17 hE20
   refine sy rfl rfl (not_t hb21) (yl_load1 ty31 rfl rfl ((q22.cell 2).trans rfl) (sy rfl rfl (not_t hb21) (yl_len un31 rfl rfl (sy rfl rfl (not_t hb21) (yl_gtr rfl rfl rfl (sd rfl (yl_pick_f rfl rfl (not_t hb21) rfl (dn (bcase (decide (3 < (p_0.Idxs.length : Int))) (fun hb23 => ?_) (fun hb23 => ?_))))))))))
   ·have hb23p := dec_t hb23
    refine CW.cond_t rfl hb23 (CW.seq (CW.region (sd rfl (yl_assign rfl rfl (dn (CW.ret (tr (rr rfl (.cons rfl .nil) ?_))))))))
    have hM24 : (i_GoodTable p_0) = (false) := by simp only [i_GoodTable, hb16, hb21, hb23, cL]
    rw [hM24]
    exact ⟨rfl, (Ex.trans (Ex.trans (Ex.trans (Ex.refl w) hE12) hE15) hE20)⟩
   ·have hb23p := dec_f hb23
    refine CW.cond_f rfl hb23 (CW.skip (tn (CW.seq (CW.seq (CW.region (sd rfl (yl_fieldAddr fd33_1 rfl rfl (sd rfl (yl_load1 ty22 rfl rfl ((q22.cell 1).trans rfl) (sd rfl (yl_len un22 rfl rfl ?_)))))))))))
    refine sd rfl (yl_move rfl rfl (dn (CW.block (CW.loop (fun m29 L30 w31 => ∃ (k28 : Nat), m29 = p_0.Cols.length - k28 ∧ k28 ≤ p_0.Cols.length ∧ w18.heap.size ≤ w31.heap.size ∧ lkp L30 1 = some (.pointer (some ⟨b7, 0, none⟩)) ∧ lkp L30 25 = some (.slice A1 p_0.Cols.length c1) ∧ lkp L30 26 = some (.int .i64 ((p_0.Cols.length : Int))) ∧ lkp L30 27 = some (.int .i64 ((k28 : Int))) ∧ Box w31 b7 33 [.string (bs (p_0.Name)), .slice A1 p_0.Cols.length c1, .slice A2 p_0.Idxs.length c2] ∧ RdS w31 (Iv 0 w.heap.size) (RF e_Str) 1 A1 p_0.Cols.length c1 p_0.Cols ∧ RdS w31 (Iv 0 w.heap.size) (RF e_Idx) 3 A2 p_0.Idxs.length c2 p_0.Idxs ∧ Ex w w31 ∧ loopM (B_i_GoodTable_0 p_0) (p_0.Cols.length - k28) k28 () = loopM (B_i_GoodTable_0 p_0) (p_0.Cols.length - 0) 0 ()) (p_0.Cols.length - 0) ?_ ?_))))
    ·exact ⟨0, rfl, (by omega), Nat.le_refl _, rfl, rfl, rfl, rfl, q22, (RdS.ex good_Str (RdS.ex good_Str (RdS.ex good_Str h1 hE12) hE15) hE20), (RdS.ex good_Idx (RdS.ex good_Idx (RdS.ex good_Idx h2 hE12) hE15) hE20), (Ex.trans (Ex.trans (Ex.trans (Ex.refl w) hE12) hE15) hE20), rfl⟩
    ·rintro m41 L42 w43 ⟨k28, rfl, hk44, hsz46, hl47, hl48, hl49, hl50, hf51, hf52, hf53, hf54, hI45⟩
     refine CW.sub (Sub.cons hl47 (Sub.cons hl48 (Sub.cons hl49 (Sub.cons hl50 (Sub.nil _))))) ?_
     have hf51z := Box.lt hf51
     have hf54z := Ex.size hf54
     have hbg55 := RdS.big hf52
     rcases Nat.lt_or_ge k28 p_0.Cols.length with hlt56 | hlt56
     ·refine CW.seq (CW.region (sd rfl (yl_lss rfl rfl rfl (dn (CW.seq (CW.cond_t rfl (lt_t hlt56) (CW.skip (tn ?_))))))))
      refine CW.seq (CW.block (CW.seq (CW.region (sd rfl (yl_move rfl rfl ?_)))))
      obtain ⟨eb57, eo57, _, eA57, _, ebl57, _, eR57, eC57⟩ := RdS.aD hf52 d_Str (i := k28)
      obtain rfl := eR57
      have eC57 : Cells w43 eb57 (eo57 + k28 * 1) [.string (bs ((p_0.Cols.getD k28 d_Str)))] := eC57
      refine sd rfl (yl_ixN un22 ty9 rfl rfl rfl eA57 (sd rfl (yl_load1 ty9 rfl rfl (eC57 0 _ rfl) (sd rfl (yl_assign rfl rfl (sd rfl (yl_assign rfl rfl (dn (CW.seq (CW.region (sd rfl (yl_move rfl rfl ?_))))))))))))
      refine sd rfl (yl_call en75 rfl (oc rfl (oc rfl oz)) (Cal.mono (c_i_areLetters (p_0.Cols.getD k28 d_Str) 3 (okL.getD o3.2.1 ok_d_Str _)) ?_))
      rintro v59 w58 ⟨rfl, hE60⟩
      have hE60z := Ex.size hE60
      refine sd rfl (yl_not rfl rfl (sd rfl (yl_move rfl rfl (bcase (i_areLetters (p_0.Cols.getD k28 d_Str) 3) (fun hb61 => ?_) (fun hb61 => ?_)))))
      ·refine sy rfl rfl (not_t hb61) (yl_fieldAddr fd33_1 rfl rfl ?_)
       have q62 := Box.ex hf51 hE60
       refine sy rfl rfl (not_t hb61) (yl_load1 ty22 rfl rfl ((q62.cell 1).trans rfl) (sy rfl rfl (not_t hb61) (yl_move rfl rfl ?_)))
       have q63 := RdS.ex good_Str hf52 hE60
       obtain ⟨A64, c65, he68, h67⟩ := RdS.sl (RdS.drop (RdS.take q63 (k := k28) (by omega)) (k := 0) (by omega))
       have hrc69 := (q63).2.1
       refine sy rfl rfl (not_t hb61) (yl_sliceR (kl := .i64) (l := 0) (h := k28) un22 ty9 rfl rfl (.inl ⟨rfl, rfl⟩) (.inr ⟨_, rfl, rfl⟩) (by omega) (by omega) he68 (sy rfl rfl (not_t hb61) (yl_move rfl rfl (sy rfl rfl (not_t hb61) (yl_call en67 rfl (oc rfl (oc rfl oz)) (Cal.mono (c_g_slices_Contains_string (p_0.Cols.take k28) (p_0.Cols.getD k28 d_Str) (RdS.up h67 good_Str) (okL.take o3.2.1 _) (okL.getD o3.2.1 ok_d_Str _)) ?_))))))
       rintro v71 w70 ⟨rfl, hE72⟩
       have hE72z := Ex.size hE72
       refine sd rfl (yl_pick_f rfl rfl (not_t hb61) rfl (dn (bcase (g_slices_Contains_string (p_0.Cols.take k28) (p_0.Cols.getD k28 d_Str)) (fun hb73 => ?_) (fun hb73 => ?_))))
       ·refine CW.cond_t rfl hb73 (CW.seq (CW.region (sd rfl (yl_assign rfl rfl (dn (CW.ret (br (tr ?_))))))))
        refine tr ?_
        have hB75 : B_i_GoodTable_0 p_0 k28 () = .ret false := by simp only [B_i_GoodTable_0, hb16, hb21, hb23, hb61, hb73, cL]
        have hL74 : loopM (B_i_GoodTable_0 p_0) (p_0.Cols.length - 0) 0 () = .ret false := hI45.symm.trans (loopM.ret hlt56 hB75)
        refine br (tr (rr rfl (.cons rfl .nil) ?_))
        have hM76 : (i_GoodTable p_0) = (false) := by simp only [i_GoodTable, hb16, hb21, hb23, hb61, hb73, hL74, cL]
        rw [hM76]
        exact ⟨rfl, (Ex.trans (Ex.trans hf54 hE60) hE72)⟩
       ·refine CW.cond_f rfl hb73 (CW.skip (bn (tn (CW.region (sd rfl (yl_inc rfl rfl rfl (by omega) (sd rfl (yl_move rfl rfl (dn ?_)))))))))
        have hB79 : B_i_GoodTable_0 p_0 k28 () = .cont () := by simp only [B_i_GoodTable_0, hb16, hb21, hb23, hb61, hb73, cL]
        exact ⟨p_0.Cols.length - (k28 + 1), by omega, k28 + 1, rfl, hlt56, (by omega), rfl, rfl, rfl, rfl, (Box.ex q62 hE72), (RdS.ex good_Str q63 hE72), (RdS.ex good_Idx (RdS.ex good_Idx hf53 hE60) hE72), (Ex.trans (Ex.trans hf54 hE60) hE72), (loopM.cont hlt56 hB79).symm.trans hI45⟩
      ·refine sz rfl rfl (not_f hb61) (sz rfl rfl (not_f hb61) (sz rfl rfl (not_f hb61) (sz rfl rfl (not_f hb61) (sz rfl rfl (not_f hb61) (sz rfl rfl (not_f hb61) (sd rfl (yl_pick_t rfl rfl (not_f hb61) rfl (dn ?_))))))))
       refine CW.cond_t rfl rfl (CW.seq (CW.region (sd rfl (yl_assign rfl rfl (dn (CW.ret (br (tr ?_))))))))
       refine tr ?_
       have hB87 : B_i_GoodTable_0 p_0 k28 () = .ret false := by simp only [B_i_GoodTable_0, hb16, hb21, hb23, hb61, cL]
       have hL86 : loopM (B_i_GoodTable_0 p_0) (p_0.Cols.length - 0) 0 () = .ret false := hI45.symm.trans (loopM.ret hlt56 hB87)
       refine br (tr (rr rfl (.cons rfl .nil) ?_))
       have hM88 : (i_GoodTable p_0) = (false) := by simp only [i_GoodTable, hb16, hb21, hb23, hb61, hL86, cL]
       rw [hM88]
       exact ⟨rfl, (Ex.trans hf54 hE60)⟩
     ·refine CW.seq (CW.region (sd rfl (yl_lss rfl rfl rfl (dn (CW.seq (CW.cond_f rfl (lt_f hlt56) (CW.exit (tx ?_))))))))
      refine tx ?_
      have hL90 : loopM (B_i_GoodTable_0 p_0) (p_0.Cols.length - 0) 0 () = .done () := hI45.symm.trans (loopM.stop hlt56)
      refine bx (tn (CW.seq (CW.seq (CW.region (sd rfl (yl_fieldAddr fd33_2 rfl rfl (sd rfl (yl_load1 ty31 rfl rfl ((hf51.cell 2).trans rfl) (sd rfl (yl_len un31 rfl rfl (sd rfl (yl_move rfl rfl ?_))))))))))))
      refine dn (CW.block (CW.loop (fun m129 L130 w131 => ∃ (k91 : Nat), m129 = p_0.Idxs.length - k91 ∧ k91 ≤ p_0.Idxs.length ∧ w43.heap.size ≤ w131.heap.size ∧ lkp L130 1 = some (.pointer (some ⟨b7, 0, none⟩)) ∧ lkp L130 45 = some (.slice A2 p_0.Idxs.length c2) ∧ lkp L130 46 = some (.int .i64 ((p_0.Idxs.length : Int))) ∧ lkp L130 47 = some (.int .i64 ((k91 : Int))) ∧ Box w131 b7 33 [.string (bs (p_0.Name)), .slice A1 p_0.Cols.length c1, .slice A2 p_0.Idxs.length c2] ∧ RdS w131 (Iv 0 w.heap.size) (RF e_Str) 1 A1 p_0.Cols.length c1 p_0.Cols ∧ RdS w131 (Iv 0 w.heap.size) (RF e_Idx) 3 A2 p_0.Idxs.length c2 p_0.Idxs ∧ Ex w w131 ∧ loopM (B_i_GoodTable_1 p_0) (p_0.Idxs.length - k91) k91 () = loopM (B_i_GoodTable_1 p_0) (p_0.Idxs.length - 0) 0 ()) (p_0.Idxs.length - 0) ?_ ?_))
      ·exact ⟨0, rfl, (by omega), Nat.le_refl _, rfl, rfl, rfl, rfl, hf51, hf52, hf53, hf54, rfl⟩
      ·rintro m132 L133 w134 ⟨k91, rfl, hk135, hsz137, hl138, hl139, hl140, hl141, hf142, hf143, hf144, hf145, hI136⟩
       refine CW.sub (Sub.cons hl138 (Sub.cons hl139 (Sub.cons hl140 (Sub.cons hl141 (Sub.nil _))))) ?_
       have hf142z := Box.lt hf142
       have hf145z := Ex.size hf145
       have hbg146 := RdS.big hf144
       rcases Nat.lt_or_ge k91 p_0.Idxs.length with hlt147 | hlt147
       ·refine CW.seq (CW.region (sd rfl (yl_lss rfl rfl rfl (dn (CW.seq (CW.cond_t rfl (lt_t hlt147) (CW.skip (tn ?_))))))))
        refine CW.seq (CW.block (CW.seq (CW.region (sd rfl (yl_move rfl rfl ?_)))))
        obtain ⟨eb148, eo148, _, eA148, _, ebl148, _, eR148, eC148⟩ := RdS.aD hf144 d_Idx (i := k91)
        obtain rfl := eR148
        have eC148 : Cells w134 eb148 (eo148 + k91 * 3) [.string (bs ((p_0.Idxs.getD k91 d_Idx).Name)), .int .i64 ((p_0.Idxs.getD k91 d_Idx).Col), .int .i64 ((p_0.Idxs.getD k91 d_Idx).Stage)] := eC148
        refine sd rfl (yl_ixN un31 ty72 rfl rfl rfl eA148 (sd rfl (yl_loadN ty72 rfl rfl eC148 rfl (sd rfl (yl_alloc ty72 (cs := [.string (bs (([] : Str))), .int .i64 (0), .int .i64 (0)]) rfl rfl ?_)))))
        intro b149 w150 hs151 hz152 hB153 hE154
        refine sd rfl (yl_assign rfl rfl (SeqR.u rfl rfl (yl_store (vs := [.string (bs ((p_0.Idxs.getD k91 d_Idx).Name)), .int .i64 ((p_0.Idxs.getD k91 d_Idx).Col), .int .i64 ((p_0.Idxs.getD k91 d_Idx).Stage)]) ty72 rfl rfl rfl rfl rfl rfl hB153 (Nat.le_of_ble_eq_true rfl) ?_)))
        intro w155 hB156 hO157
        have hB156 : Box w155 b149 72 [.string (bs ((p_0.Idxs.getD k91 d_Idx).Name)), .int .i64 ((p_0.Idxs.getD k91 d_Idx).Col), .int .i64 ((p_0.Idxs.getD k91 d_Idx).Stage)] := hB156
        have hO157z := hO157.size
        refine dn (CW.seq (bcase (i_areLetters ((p_0.Idxs.getD k91 d_Idx).Name) 1) (fun hb159 => ?_) (fun hb159 => ?_)))
        ·refine bcase (i_within ((p_0.Idxs.getD k91 d_Idx).Col) 1 (IntKind.wrap .i64 ((p_0.Cols.length : Int) - 1))) (fun hb164 => ?_) (fun hb164 => ?_)
         ·have hb164p := f_within hb164
          refine bcase (i_isStage ((p_0.Idxs.getD k91 d_Idx).Stage)) (fun hb170 => ?_) (fun hb170 => ?_)
          ·have hb170p := f_i_isStage hb170
           refine bcase (decide (0 < (k91 : Int))) (fun hb176 => ?_) (fun hb176 => ?_)
           ·have hb176p := dec_t hb176
            have q179 := Box.only (Box.ex hf142 hE154) hO157 (by omega)
            have q183 := RdS.only good_Idx (RdS.ex good_Idx hf144 hE154) hO157 (by simp only [Iv]; omega)
            obtain ⟨eb184, eo184, _, eA184, _, ebl184, _, eR184, eC184⟩ := RdS.atD q183 d_Idx (i := (IntKind.wrap .i64 ((k91 : Int) - 1)).toNat) (by first | omega | assumption | (simp only [wI] at *; omega))
            obtain rfl := eR184
            have eC184 : Cells w155 eb184 (eo184 + ((IntKind.wrap .i64 ((k91 : Int) - 1)).toNat) * 3) [.string (bs ((p_0.Idxs.getD ((IntKind.wrap .i64 ((k91 : Int) - 1)).toNat) d_Idx).Name)), .int .i64 ((p_0.Idxs.getD ((IntKind.wrap .i64 ((k91 : Int) - 1)).toNat) d_Idx).Col), .int .i64 ((p_0.Idxs.getD ((IntKind.wrap .i64 ((k91 : Int) - 1)).toNat) d_Idx).Stage)] := eC184
            refine CW.drawsI 36 (vgetI ([.pointer (some ⟨b149, 0 + 0, none⟩), .string (bs ((p_0.Idxs.getD k91 d_Idx).Name)), .bool ((i_areLetters ((p_0.Idxs.getD k91 d_Idx).Name) 1)), .bool (!(i_areLetters ((p_0.Idxs.getD k91 d_Idx).Name) 1)), .bool (!(i_areLetters ((p_0.Idxs.getD k91 d_Idx).Name) 1)), .pointer (some ⟨b149, 0 + 1, none⟩), .int .i64 ((p_0.Idxs.getD k91 d_Idx).Col), .pointer (some ⟨b7, 0 + 1, none⟩), .slice A1 p_0.Cols.length c1, .int .i64 ((p_0.Cols.length : Int)), .int .i64 (IntKind.wrap .i64 ((p_0.Cols.length : Int) - 1)), .bool ((i_within ((p_0.Idxs.getD k91 d_Idx).Col) 1 (IntKind.wrap .i64 ((p_0.Cols.length : Int) - 1)))), .bool (!(i_within ((p_0.Idxs.getD k91 d_Idx).Col) 1 (IntKind.wrap .i64 ((p_0.Cols.length : Int) - 1)))), .bool (!(i_within ((p_0.Idxs.getD k91 d_Idx).Col) 1 (IntKind.wrap .i64 ((p_0.Cols.length : Int) - 1)))), .bool (!(i_within ((p_0.Idxs.getD k91 d_Idx).Col) 1 (IntKind.wrap .i64 ((p_0.Cols.length : Int) - 1)))), .pointer (some ⟨b149, 0 + 2, none⟩), .int .i64 ((p_0.Idxs.getD k91 d_Idx).Stage), .bool ((i_isStage ((p_0.Idxs.getD k91 d_Idx).Stage))), .bool (!(i_isStage ((p_0.Idxs.getD k91 d_Idx).Stage))), .bool (!(i_isStage ((p_0.Idxs.getD k91 d_Idx).Stage))), .bool (!(i_isStage ((p_0.Idxs.getD k91 d_Idx).Stage))), .int .i64 ((k91 : Int)), .bool (decide (0 < (k91 : Int))), .bool (decide (0 < (k91 : Int))), .pointer (some ⟨b149, 0 + 0, none⟩), .string (bs ((p_0.Idxs.getD k91 d_Idx).Name)), .pointer (some ⟨b7, 0 + 2, none⟩), .slice A2 p_0.Idxs.length c2, .int .i64 ((k91 : Int)), .int .i64 (IntKind.wrap .i64 ((k91 : Int) - 1)), .pointer (some ⟨eb184, eo184 + ((IntKind.wrap .i64 ((k91 : Int) - 1)).toNat) * 3, none⟩), .pointer (some ⟨eb184, eo184 + ((IntKind.wrap .i64 ((k91 : Int) - 1)).toNat) * 3 + 0, none⟩), .string (bs ((p_0.Idxs.getD ((IntKind.wrap .i64 ((k91 : Int) - 1)).toNat) d_Idx).Name)), .bool (sLe ((p_0.Idxs.getD k91 d_Idx).Name) ((p_0.Idxs.getD ((IntKind.wrap .i64 ((k91 : Int) - 1)).toNat) d_Idx).Name)), .bool (sLe ((p_0.Idxs.getD k91 d_Idx).Name) ((p_0.Idxs.getD ((IntKind.wrap .i64 ((k91 : Int) - 1)).toNat) d_Idx).Name)), .bool (sLe ((p_0.Idxs.getD k91 d_Idx).Name) ((p_0.Idxs.getD ((IntKind.wrap .i64 ((k91 : Int) - 1)).toNat) d_Idx).Name))].map DetI)) Tryz.follows rfl rfl rfl rfl rfl rfl (vgetI_stable (stD _)) ⟨?_, ?_, ?_, ?_, ?_, ?_, ?_, ?_, ?_, ?_, ?_, ?_, ?_, ?_, ?_, ?_, ?_, ?_, ?_, ?_, ?_, ?_, ?_, ?_, ?_, ?_, ?_, ?_, ?_, ?_, ?_, ?_, ?_, ?_, ?_, ?_, trivial⟩ ?_
            ·exact oI rfl fun h => yl_fieldAddr fd72_0 rfl (h.old 6 _ rfl rfl) kI
            ·exact oI rfl fun h => yl_load1 ty9 rfl (h.dt 0 52 rfl rfl rfl) (((Box.ex hB156 h.ex).cell 0).trans rfl) kI
            ·intro L196 w197 hi198
             exact OpR.op' rfl (yl_call en75 rfl (oc (hi198.dt 1 53 rfl rfl rfl) (oc rfl oz)) (Cal.mono (c_i_areLetters ((p_0.Idxs.getD k91 d_Idx).Name) 1 (okL.getD o3.2.2 ok_d_Idx _)) fun _ _ h => h))
            ·exact oI rfl fun h => yl_not rfl (h.dt 2 54 rfl rfl rfl) kI
            ·exact oI rfl fun h => yl_move rfl (h.dt 3 55 rfl rfl rfl) kI
            ·exact oW rfl rfl rfl rfl (not_t hb159) fun h => yl_fieldAddr fd72_1 rfl (h.old 6 _ rfl rfl) kI
            ·exact oW rfl rfl rfl rfl (not_t hb159) fun h => yl_load1 ty3 rfl (h.dt 5 57 rfl rfl rfl) (((Box.ex hB156 h.ex).cell 1).trans rfl) kI
            ·exact oW rfl rfl rfl rfl (not_t hb159) fun h => yl_fieldAddr fd33_1 rfl (h.old 1 _ rfl rfl) kI
            ·exact oW rfl rfl rfl rfl (not_t hb159) fun h => yl_load1 ty22 rfl (h.dt 7 59 rfl rfl rfl) (((Box.ex q179 h.ex).cell 1).trans rfl) kI
            ·exact oW rfl rfl rfl rfl (not_t hb159) fun h => yl_len un22 rfl (h.dt 8 60 rfl rfl rfl) kI
            ·exact oW rfl rfl rfl rfl (not_t hb159) fun h => yl_sub rfl (h.dt 9 61 rfl rfl rfl) rfl kI
            ·intro L252 w253 hi254
             exact OpR.want rfl rfl (hi254.dt 4 56 rfl rfl rfl) (not_t hb159) (yl_call en76 rfl (oc (hi254.dt 6 58 rfl rfl rfl) (oc rfl (oc (hi254.dt 10 62 rfl rfl rfl) oz))) (Cal.mono (c_i_within ((p_0.Idxs.getD k91 d_Idx).Col) 1 (IntKind.wrap .i64 ((p_0.Cols.length : Int) - 1))) fun _ _ h => h))
            ·exact oW rfl rfl rfl rfl (not_t hb159) fun h => yl_not rfl (h.dt 11 63 rfl rfl rfl) kI
            ·exact oI rfl fun h => yl_pick_f rfl (h.dt 4 56 rfl rfl rfl) (not_t hb159) (h.dt 12 64 rfl rfl rfl) kI
            ·exact oI rfl fun h => yl_move rfl (h.dt 13 65 rfl rfl rfl) kI
            ·exact oW rfl rfl rfl rfl (not_t hb164) fun h => yl_fieldAddr fd72_2 rfl (h.old 6 _ rfl rfl) kI
            ·exact oW rfl rfl rfl rfl (not_t hb164) fun h => yl_load1 ty3 rfl (h.dt 15 67 rfl rfl rfl) (((Box.ex hB156 h.ex).cell 2).trans rfl) kI
            ·intro L292 w293 hi294
             exact OpR.want rfl rfl (hi294.dt 14 66 rfl rfl rfl) (not_t hb164) (yl_call en77 rfl (oc (hi294.dt 16 68 rfl rfl rfl) oz) (Cal.mono (c_i_isStage ((p_0.Idxs.getD k91 d_Idx).Stage)) fun _ _ h => h))
            ·exact oW rfl rfl rfl rfl (not_t hb164) fun h => yl_not rfl (h.dt 17 69 rfl rfl rfl) kI
            ·exact oI rfl fun h => yl_pick_f rfl (h.dt 14 66 rfl rfl rfl) (not_t hb164) (h.dt 18 70 rfl rfl rfl) kI
            ·exact oI rfl fun h => yl_move rfl (h.dt 19 71 rfl rfl rfl) kI
            ·exact oW rfl rfl rfl rfl (not_t hb170) fun h => yl_move rfl (h.old 5 _ rfl rfl) kI
            ·exact oW rfl rfl rfl rfl (not_t hb170) fun h => yl_gtr rfl (h.dt 21 73 rfl rfl rfl) rfl kI
            ·exact oW rfl rfl rfl rfl (not_t hb170) fun h => yl_move rfl (h.dt 22 74 rfl rfl rfl) kI
            ·exact oW rfl rfl rfl rfl hb176 fun h => yl_fieldAddr fd72_0 rfl (h.old 6 _ rfl rfl) kI
            ·exact oW rfl rfl rfl rfl hb176 fun h => yl_load1 ty9 rfl (h.dt 24 76 rfl rfl rfl) (((Box.ex hB156 h.ex).cell 0).trans rfl) kI
            ·exact oW rfl rfl rfl rfl hb176 fun h => yl_fieldAddr fd33_2 rfl (h.old 1 _ rfl rfl) kI
            ·exact oW rfl rfl rfl rfl hb176 fun h => yl_load1 ty31 rfl (h.dt 26 78 rfl rfl rfl) (((Box.ex q179 h.ex).cell 2).trans rfl) kI
            ·exact oW rfl rfl rfl rfl hb176 fun h => yl_move rfl (h.old 5 _ rfl rfl) kI
            ·exact oW rfl rfl rfl rfl hb176 fun h => yl_sub rfl (h.dt 28 80 rfl rfl rfl) rfl kI
            ·intro L374 w375 hi376
             have hE377 := hi376.ex
             have hE377z := Ex.size hE377
             exact OpR.want rfl rfl (hi376.dt 23 75 rfl rfl rfl) hb176 (Yl.sameI (yl_indexAddr un31 ty72 rfl (hi376.dt 27 79 rfl rfl rfl) (hi376.dt 29 81 rfl rfl rfl) eA184 (by first | omega | assumption | (simp only [wI] at *; omega)) (by first | omega | assumption | (simp only [wI] at *; omega)) kI))
            ·exact oW rfl rfl rfl rfl hb176 fun h => yl_fieldAddr fd72_0 rfl (h.dt 30 82 rfl rfl rfl) kI
            ·exact oW rfl rfl rfl rfl hb176 fun h => yl_load1 ty9 rfl (h.dt 31 83 rfl rfl rfl) ((Cells.ex eC184 h.ex) 0 _ rfl) kI
            ·exact oW rfl rfl rfl rfl hb176 fun h => yl_sleq (a := ((p_0.Idxs.getD k91 d_Idx).Name)) (b := ((p_0.Idxs.getD ((IntKind.wrap .i64 ((k91 : Int) - 1)).toNat) d_Idx).Name)) rfl (h.dt 25 77 rfl rfl rfl) (h.dt 32 84 rfl rfl rfl) kI
            ·exact oW rfl rfl rfl rfl (not_t hb170) fun h => yl_pick_t rfl (h.dt 23 75 rfl rfl rfl) hb176 (h.dt 33 85 rfl rfl rfl) kI
            ·exact oI rfl fun h => yl_pick_f rfl (h.dt 20 72 rfl rfl rfl) (not_t hb170) (h.dt 34 86 rfl rfl rfl) kI
            ·intro fl417 fh418 L414 w415 hp416
             have hE419 := hp416.ex
             have hE419z := Ex.size hE419
             refine dn (CW.sub (Sub.cons (d := 1) (hp416.old 1 _ rfl rfl) (Sub.cons (d := 45) (hp416.old 45 _ rfl rfl) (Sub.cons (d := 46) (hp416.old 46 _ rfl rfl) (Sub.cons (d := 47) (hp416.old 47 _ rfl rfl) (Sub.cons (d := 57) (hp416.nt 5 57 rfl rfl rfl) (Sub.cons (d := 58) (hp416.nt 6 58 rfl rfl rfl) (Sub.cons (d := 59) (hp416.nt 7 59 rfl rfl rfl) (Sub.cons (d := 60) (hp416.nt 8 60 rfl rfl rfl) (Sub.cons (d := 61) (hp416.nt 9 61 rfl rfl rfl) (Sub.cons (d := 62) (hp416.nt 10 62 rfl rfl rfl) (Sub.cons (d := 63) (hp416.nt 11 63 rfl rfl rfl) (Sub.cons (d := 64) (hp416.nt 12 64 rfl rfl rfl) (Sub.cons (d := 67) (hp416.nt 15 67 rfl rfl rfl) (Sub.cons (d := 68) (hp416.nt 16 68 rfl rfl rfl) (Sub.cons (d := 69) (hp416.nt 17 69 rfl rfl rfl) (Sub.cons (d := 70) (hp416.nt 18 70 rfl rfl rfl) (Sub.cons (d := 73) (hp416.nt 21 73 rfl rfl rfl) (Sub.cons (d := 74) (hp416.nt 22 74 rfl rfl rfl) (Sub.cons (d := 75) (hp416.nt 23 75 rfl rfl rfl) (Sub.cons (d := 76) (hp416.nt 24 76 rfl rfl rfl) (Sub.cons (d := 77) (hp416.nt 25 77 rfl rfl rfl) (Sub.cons (d := 78) (hp416.nt 26 78 rfl rfl rfl) (Sub.cons (d := 79) (hp416.nt 27 79 rfl rfl rfl) (Sub.cons (d := 80) (hp416.nt 28 80 rfl rfl rfl) (Sub.cons (d := 81) (hp416.nt 29 81 rfl rfl rfl) (Sub.cons (d := 82) (hp416.nt 30 82 rfl rfl rfl) (Sub.cons (d := 83) (hp416.nt 31 83 rfl rfl rfl) (Sub.cons (d := 84) (hp416.nt 32 84 rfl rfl rfl) (Sub.cons (d := 85) (hp416.nt 33 85 rfl rfl rfl) (Sub.cons (d := 86) (hp416.nt 34 86 rfl rfl rfl) (Sub.cons (d := 87) (hp416.nt 35 87 rfl rfl rfl) (Sub.nil _)))))))))))))))))))))))))))))))) ?_)
             refine bcase (sLe ((p_0.Idxs.getD k91 d_Idx).Name) ((p_0.Idxs.getD ((IntKind.wrap .i64 ((k91 : Int) - 1)).toNat) d_Idx).Name)) (fun hb451 => ?_) (fun hb451 => ?_)
             ·refine CW.cond_t rfl hb451 (CW.seq (CW.region (sd rfl (yl_assign rfl rfl (dn (CW.ret (br (tr ?_))))))))
              refine tr ?_
              have hB453 : B_i_GoodTable_1 p_0 k91 () = .ret false := by simp only [B_i_GoodTable_1, hb16, hb21, hb23, hb159, hb164, hb170, hb176, hb451, hL90, cL]
              have hL452 : loopM (B_i_GoodTable_1 p_0) (p_0.Idxs.length - 0) 0 () = .ret false := hI136.symm.trans (loopM.ret hlt147 hB453)
              refine br (tr (rr rfl (.cons rfl .nil) ?_))
              have hM454 : (i_GoodTable p_0) = (false) := by simp only [i_GoodTable, hb16, hb21, hb23, hb159, hb164, hb170, hb176, hb451, hL90, hL452, cL]
              rw [hM454]
              exact ⟨rfl, (Ex.trans (Below.only (Ex.trans hf145 hE154) hO157 (by omega)) hE419)⟩
             ·refine CW.cond_f rfl hb451 (CW.skip (bn (tn (CW.region (sd rfl (yl_inc rfl rfl rfl (by omega) (sd rfl (yl_move rfl rfl (dn ?_)))))))))
              have hB458 : B_i_GoodTable_1 p_0 k91 () = .cont () := by simp only [B_i_GoodTable_1, hb16, hb21, hb23, hb159, hb164, hb170, hb176, hb451, hL90, cL]
              exact ⟨p_0.Idxs.length - (k91 + 1), by omega, k91 + 1, rfl, hlt147, (by omega), rfl, rfl, rfl, rfl, (Box.ex q179 hE419), (RdS.ex good_Str (RdS.only good_Str (RdS.ex good_Str hf143 hE154) hO157 (by simp only [Iv]; omega)) hE419), (RdS.ex good_Idx q183 hE419), (Ex.trans (Below.only (Ex.trans hf145 hE154) hO157 (by omega)) hE419), (loopM.cont hlt147 hB458).symm.trans hI136⟩
           ·have hb176p := dec_f hb176
            have q469 := Box.only (Box.ex hf142 hE154) hO157 (by omega)
            refine CW.drawsI 36 (vgetI ([.pointer (some ⟨b149, 0 + 0, none⟩), .string (bs ((p_0.Idxs.getD k91 d_Idx).Name)), .bool ((i_areLetters ((p_0.Idxs.getD k91 d_Idx).Name) 1)), .bool (!(i_areLetters ((p_0.Idxs.getD k91 d_Idx).Name) 1)), .bool (!(i_areLetters ((p_0.Idxs.getD k91 d_Idx).Name) 1)), .pointer (some ⟨b149, 0 + 1, none⟩), .int .i64 ((p_0.Idxs.getD k91 d_Idx).Col), .pointer (some ⟨b7, 0 + 1, none⟩), .slice A1 p_0.Cols.length c1, .int .i64 ((p_0.Cols.length : Int)), .int .i64 (IntKind.wrap .i64 ((p_0.Cols.length : Int) - 1)), .bool ((i_within ((p_0.Idxs.getD k91 d_Idx).Col) 1 (IntKind.wrap .i64 ((p_0.Cols.length : Int) - 1)))), .bool (!(i_within ((p_0.Idxs.getD k91 d_Idx).Col) 1 (IntKind.wrap .i64 ((p_0.Cols.length : Int) - 1)))), .bool (!(i_within ((p_0.Idxs.getD k91 d_Idx).Col) 1 (IntKind.wrap .i64 ((p_0.Cols.length : Int) - 1)))), .bool (!(i_within ((p_0.Idxs.getD k91 d_Idx).Col) 1 (IntKind.wrap .i64 ((p_0.Cols.length : Int) - 1)))), .pointer (some ⟨b149, 0 + 2, none⟩), .int .i64 ((p_0.Idxs.getD k91 d_Idx).Stage), .bool ((i_isStage ((p_0.Idxs.getD k91 d_Idx).Stage))), .bool (!(i_isStage ((p_0.Idxs.getD k91 d_Idx).Stage))), .bool (!(i_isStage ((p_0.Idxs.getD k91 d_Idx).Stage))), .bool (!(i_isStage ((p_0.Idxs.getD k91 d_Idx).Stage))), .int .i64 ((k91 : Int)), .bool (decide (0 < (k91 : Int))), .bool (decide (0 < (k91 : Int))), undef, undef, undef, undef, undef, undef, undef, undef, undef, undef, .bool (false), .bool (false)].map DetI)) Tryz.follows rfl rfl rfl rfl rfl rfl (vgetI_stable (stD _)) ⟨?_, ?_, ?_, ?_, ?_, ?_, ?_, ?_, ?_, ?_, ?_, ?_, ?_, ?_, ?_, ?_, ?_, ?_, ?_, ?_, ?_, ?_, ?_, ?_, ?_, ?_, ?_, ?_, ?_, ?_, ?_, ?_, ?_, ?_, ?_, ?_, trivial⟩ ?_
            ·exact oI rfl fun h => yl_fieldAddr fd72_0 rfl (h.old 6 _ rfl rfl) kI
            ·exact oI rfl fun h => yl_load1 ty9 rfl (h.dt 0 52 rfl rfl rfl) (((Box.ex hB156 h.ex).cell 0).trans rfl) kI
            ·intro L483 w484 hi485
             exact OpR.op' rfl (yl_call en75 rfl (oc (hi485.dt 1 53 rfl rfl rfl) (oc rfl oz)) (Cal.mono (c_i_areLetters ((p_0.Idxs.getD k91 d_Idx).Name) 1 (okL.getD o3.2.2 ok_d_Idx _)) fun _ _ h => h))
            ·exact oI rfl fun h => yl_not rfl (h.dt 2 54 rfl rfl rfl) kI
            ·exact oI rfl fun h => yl_move rfl (h.dt 3 55 rfl rfl rfl) kI
            ·exact oW rfl rfl rfl rfl (not_t hb159) fun h => yl_fieldAddr fd72_1 rfl (h.old 6 _ rfl rfl) kI
            ·exact oW rfl rfl rfl rfl (not_t hb159) fun h => yl_load1 ty3 rfl (h.dt 5 57 rfl rfl rfl) (((Box.ex hB156 h.ex).cell 1).trans rfl) kI
            ·exact oW rfl rfl rfl rfl (not_t hb159) fun h => yl_fieldAddr fd33_1 rfl (h.old 1 _ rfl rfl) kI
            ·exact oW rfl rfl rfl rfl (not_t hb159) fun h => yl_load1 ty22 rfl (h.dt 7 59 rfl rfl rfl) (((Box.ex q469 h.ex).cell 1).trans rfl) kI
            ·exact oW rfl rfl rfl rfl (not_t hb159) fun h => yl_len un22 rfl (h.dt 8 60 rfl rfl rfl) kI
            ·exact oW rfl rfl rfl rfl (not_t hb159) fun h => yl_sub rfl (h.dt 9 61 rfl rfl rfl) rfl kI
            ·intro L539 w540 hi541
             exact OpR.want rfl rfl (hi541.dt 4 56 rfl rfl rfl) (not_t hb159) (yl_call en76 rfl (oc (hi541.dt 6 58 rfl rfl rfl) (oc rfl (oc (hi541.dt 10 62 rfl rfl rfl) oz))) (Cal.mono (c_i_within ((p_0.Idxs.getD k91 d_Idx).Col) 1 (IntKind.wrap .i64 ((p_0.Cols.length : Int) - 1))) fun _ _ h => h))
            ·exact oW rfl rfl rfl rfl (not_t hb159) fun h => yl_not rfl (h.dt 11 63 rfl rfl rfl) kI
            ·exact oI rfl fun h => yl_pick_f rfl (h.dt 4 56 rfl rfl rfl) (not_t hb159) (h.dt 12 64 rfl rfl rfl) kI
            ·exact oI rfl fun h => yl_move rfl (h.dt 13 65 rfl rfl rfl) kI
            ·exact oW rfl rfl rfl rfl (not_t hb164) fun h => yl_fieldAddr fd72_2 rfl (h.old 6 _ rfl rfl) kI
            ·exact oW rfl rfl rfl rfl (not_t hb164) fun h => yl_load1 ty3 rfl (h.dt 15 67 rfl rfl rfl) (((Box.ex hB156 h.ex).cell 2).trans rfl) kI
            ·intro L579 w580 hi581
             exact OpR.want rfl rfl (hi581.dt 14 66 rfl rfl rfl) (not_t hb164) (yl_call en77 rfl (oc (hi581.dt 16 68 rfl rfl rfl) oz) (Cal.mono (c_i_isStage ((p_0.Idxs.getD k91 d_Idx).Stage)) fun _ _ h => h))
            ·exact oW rfl rfl rfl rfl (not_t hb164) fun h => yl_not rfl (h.dt 17 69 rfl rfl rfl) kI
            ·exact oI rfl fun h => yl_pick_f rfl (h.dt 14 66 rfl rfl rfl) (not_t hb164) (h.dt 18 70 rfl rfl rfl) kI
            ·exact oI rfl fun h => yl_move rfl (h.dt 19 71 rfl rfl rfl) kI
            ·exact oW rfl rfl rfl rfl (not_t hb170) fun h => yl_move rfl (h.old 5 _ rfl rfl) kI
            ·exact oW rfl rfl rfl rfl (not_t hb170) fun h => yl_gtr rfl (h.dt 21 73 rfl rfl rfl) rfl kI
            ·exact oW rfl rfl rfl rfl (not_t hb170) fun h => yl_move rfl (h.dt 22 74 rfl rfl rfl) kI
            ·exact oS rfl rfl rfl rfl rfl hb176
            ·exact oS rfl rfl rfl rfl rfl hb176
            ·exact oS rfl rfl rfl rfl rfl hb176
            ·exact oS rfl rfl rfl rfl rfl hb176
            ·exact oS rfl rfl rfl rfl rfl hb176
            ·exact oS rfl rfl rfl rfl rfl hb176
            ·exact oS rfl rfl rfl rfl rfl hb176
            ·exact oS rfl rfl rfl rfl rfl hb176
            ·exact oS rfl rfl rfl rfl rfl hb176
            ·exact oS rfl rfl rfl rfl rfl hb176
            ·exact oW rfl rfl rfl rfl (not_t hb170) fun h => yl_pick_f rfl (h.dt 23 75 rfl rfl rfl) hb176 rfl kI
            ·exact oI rfl fun h => yl_pick_f rfl (h.dt 20 72 rfl rfl rfl) (not_t hb170) (h.dt 34 86 rfl rfl rfl) kI
            ·intro fl689 fh690 L686 w687 hp688
             have hE691 := hp688.ex
             have hE691z := Ex.size hE691
             refine dn (CW.sub (Sub.cons (d := 1) (hp688.old 1 _ rfl rfl) (Sub.cons (d := 45) (hp688.old 45 _ rfl rfl) (Sub.cons (d := 46) (hp688.old 46 _ rfl rfl) (Sub.cons (d := 47) (hp688.old 47 _ rfl rfl) (Sub.cons (d := 57) (hp688.nt 5 57 rfl rfl rfl) (Sub.cons (d := 58) (hp688.nt 6 58 rfl rfl rfl) (Sub.cons (d := 59) (hp688.nt 7 59 rfl rfl rfl) (Sub.cons (d := 60) (hp688.nt 8 60 rfl rfl rfl) (Sub.cons (d := 61) (hp688.nt 9 61 rfl rfl rfl) (Sub.cons (d := 62) (hp688.nt 10 62 rfl rfl rfl) (Sub.cons (d := 63) (hp688.nt 11 63 rfl rfl rfl) (Sub.cons (d := 64) (hp688.nt 12 64 rfl rfl rfl) (Sub.cons (d := 67) (hp688.nt 15 67 rfl rfl rfl) (Sub.cons (d := 68) (hp688.nt 16 68 rfl rfl rfl) (Sub.cons (d := 69) (hp688.nt 17 69 rfl rfl rfl) (Sub.cons (d := 70) (hp688.nt 18 70 rfl rfl rfl) (Sub.cons (d := 73) (hp688.nt 21 73 rfl rfl rfl) (Sub.cons (d := 74) (hp688.nt 22 74 rfl rfl rfl) (Sub.cons (d := 75) (hp688.nt 23 75 rfl rfl rfl) (Sub.cons (d := 76) (hp688.nt 24 76 rfl rfl rfl) (Sub.cons (d := 77) (hp688.nt 25 77 rfl rfl rfl) (Sub.cons (d := 78) (hp688.nt 26 78 rfl rfl rfl) (Sub.cons (d := 79) (hp688.nt 27 79 rfl rfl rfl) (Sub.cons (d := 80) (hp688.nt 28 80 rfl rfl rfl) (Sub.cons (d := 81) (hp688.nt 29 81 rfl rfl rfl) (Sub.cons (d := 82) (hp688.nt 30 82 rfl rfl rfl) (Sub.cons (d := 83) (hp688.nt 31 83 rfl rfl rfl) (Sub.cons (d := 84) (hp688.nt 32 84 rfl rfl rfl) (Sub.cons (d := 85) (hp688.nt 33 85 rfl rfl rfl) (Sub.cons (d := 86) (hp688.nt 34 86 rfl rfl rfl) (Sub.cons (d := 87) (hp688.nt 35 87 rfl rfl rfl) (Sub.nil _)))))))))))))))))))))))))))))))) ?_)
             refine CW.cond_f rfl rfl (CW.skip (bn (tn (CW.region (sd rfl (yl_inc rfl rfl rfl (by omega) (sd rfl (yl_move rfl rfl (dn ?_)))))))))
             have hB723 : B_i_GoodTable_1 p_0 k91 () = .cont () := by simp only [B_i_GoodTable_1, hb16, hb21, hb23, hb159, hb164, hb170, hb176, hL90, cL]
             exact ⟨p_0.Idxs.length - (k91 + 1), by omega, k91 + 1, rfl, hlt147, (by omega), rfl, rfl, rfl, rfl, (Box.ex q469 hE691), (RdS.ex good_Str (RdS.only good_Str (RdS.ex good_Str hf143 hE154) hO157 (by simp only [Iv]; omega)) hE691), (RdS.ex good_Idx (RdS.only good_Idx (RdS.ex good_Idx hf144 hE154) hO157 (by simp only [Iv]; omega)) hE691), (Ex.trans (Below.only (Ex.trans hf145 hE154) hO157 (by omega)) hE691), (loopM.cont hlt147 hB723).symm.trans hI136⟩
          ·refine CW.drawsI 36 (vgetI ([.pointer (some ⟨b149, 0 + 0, none⟩), .string (bs ((p_0.Idxs.getD k91 d_Idx).Name)), .bool ((i_areLetters ((p_0.Idxs.getD k91 d_Idx).Name) 1)), .bool (!(i_areLetters ((p_0.Idxs.getD k91 d_Idx).Name) 1)), .bool (!(i_areLetters ((p_0.Idxs.getD k91 d_Idx).Name) 1)), .pointer (some ⟨b149, 0 + 1, none⟩), .int .i64 ((p_0.Idxs.getD k91 d_Idx).Col), .pointer (some ⟨b7, 0 + 1, none⟩), .slice A1 p_0.Cols.length c1, .int .i64 ((p_0.Cols.length : Int)), .int .i64 (IntKind.wrap .i64 ((p_0.Cols.length : Int) - 1)), .bool ((i_within ((p_0.Idxs.getD k91 d_Idx).Col) 1 (IntKind.wrap .i64 ((p_0.Cols.length : Int) - 1)))), .bool (!(i_within ((p_0.Idxs.getD k91 d_Idx).Col) 1 (IntKind.wrap .i64 ((p_0.Cols.length : Int) - 1)))), .bool (!(i_within ((p_0.Idxs.getD k91 d_Idx).Col) 1 (IntKind.wrap .i64 ((p_0.Cols.length : Int) - 1)))), .bool (!(i_within ((p_0.Idxs.getD k91 d_Idx).Col) 1 (IntKind.wrap .i64 ((p_0.Cols.length : Int) - 1)))), .pointer (some ⟨b149, 0 + 2, none⟩), .int .i64 ((p_0.Idxs.getD k91 d_Idx).Stage), .bool ((i_isStage ((p_0.Idxs.getD k91 d_Idx).Stage))), .bool (!(i_isStage ((p_0.Idxs.getD k91 d_Idx).Stage))), .bool (!(i_isStage ((p_0.Idxs.getD k91 d_Idx).Stage))), .bool (!(i_isStage ((p_0.Idxs.getD k91 d_Idx).Stage))), undef, undef, undef, undef, undef, undef, undef, undef, undef, undef, undef, undef, undef, undef, .bool (true)].map DetI)) Tryz.follows rfl rfl rfl rfl rfl rfl (vgetI_stable (stD _)) ⟨?_, ?_, ?_, ?_, ?_, ?_, ?_, ?_, ?_, ?_, ?_, ?_, ?_, ?_, ?_, ?_, ?_, ?_, ?_, ?_, ?_, ?_, ?_, ?_, ?_, ?_, ?_, ?_, ?_, ?_, ?_, ?_, ?_, ?_, ?_, ?_, trivial⟩ ?_
           ·exact oI rfl fun h => yl_fieldAddr fd72_0 rfl (h.old 6 _ rfl rfl) kI
           ·exact oI rfl fun h => yl_load1 ty9 rfl (h.dt 0 52 rfl rfl rfl) (((Box.ex hB156 h.ex).cell 0).trans rfl) kI
           ·intro L750 w751 hi752
            exact OpR.op' rfl (yl_call en75 rfl (oc (hi752.dt 1 53 rfl rfl rfl) (oc rfl oz)) (Cal.mono (c_i_areLetters ((p_0.Idxs.getD k91 d_Idx).Name) 1 (okL.getD o3.2.2 ok_d_Idx _)) fun _ _ h => h))
           ·exact oI rfl fun h => yl_not rfl (h.dt 2 54 rfl rfl rfl) kI
           ·exact oI rfl fun h => yl_move rfl (h.dt 3 55 rfl rfl rfl) kI
           ·exact oW rfl rfl rfl rfl (not_t hb159) fun h => yl_fieldAddr fd72_1 rfl (h.old 6 _ rfl rfl) kI
           ·exact oW rfl rfl rfl rfl (not_t hb159) fun h => yl_load1 ty3 rfl (h.dt 5 57 rfl rfl rfl) (((Box.ex hB156 h.ex).cell 1).trans rfl) kI
           ·exact oW rfl rfl rfl rfl (not_t hb159) fun h => yl_fieldAddr fd33_1 rfl (h.old 1 _ rfl rfl) kI
           ·intro L787 w788 hi789
            have hE790 := hi789.ex
            have hE790z := Ex.size hE790
            exact OpR.want rfl rfl (hi789.dt 4 56 rfl rfl rfl) (not_t hb159) (Yl.sameI (yl_load1 ty22 rfl (hi789.dt 7 59 rfl rfl rfl) (((Box.ex (Box.only (Box.ex hf142 hE154) hO157 (by omega)) hE790).cell 1).trans rfl) kI))
           ·exact oW rfl rfl rfl rfl (not_t hb159) fun h => yl_len un22 rfl (h.dt 8 60 rfl rfl rfl) kI
           ·exact oW rfl rfl rfl rfl (not_t hb159) fun h => yl_sub rfl (h.dt 9 61 rfl rfl rfl) rfl kI
           ·intro L806 w807 hi808
            exact OpR.want rfl rfl (hi808.dt 4 56 rfl rfl rfl) (not_t hb159) (yl_call en76 rfl (oc (hi808.dt 6 58 rfl rfl rfl) (oc rfl (oc (hi808.dt 10 62 rfl rfl rfl) oz))) (Cal.mono (c_i_within ((p_0.Idxs.getD k91 d_Idx).Col) 1 (IntKind.wrap .i64 ((p_0.Cols.length : Int) - 1))) fun _ _ h => h))
           ·exact oW rfl rfl rfl rfl (not_t hb159) fun h => yl_not rfl (h.dt 11 63 rfl rfl rfl) kI
           ·exact oI rfl fun h => yl_pick_f rfl (h.dt 4 56 rfl rfl rfl) (not_t hb159) (h.dt 12 64 rfl rfl rfl) kI
           ·exact oI rfl fun h => yl_move rfl (h.dt 13 65 rfl rfl rfl) kI
           ·exact oW rfl rfl rfl rfl (not_t hb164) fun h => yl_fieldAddr fd72_2 rfl (h.old 6 _ rfl rfl) kI
           ·exact oW rfl rfl rfl rfl (not_t hb164) fun h => yl_load1 ty3 rfl (h.dt 15 67 rfl rfl rfl) (((Box.ex hB156 h.ex).cell 2).trans rfl) kI
           ·intro L846 w847 hi848
            exact OpR.want rfl rfl (hi848.dt 14 66 rfl rfl rfl) (not_t hb164) (yl_call en77 rfl (oc (hi848.dt 16 68 rfl rfl rfl) oz) (Cal.mono (c_i_isStage ((p_0.Idxs.getD k91 d_Idx).Stage)) fun _ _ h => h))
           ·exact oW rfl rfl rfl rfl (not_t hb164) fun h => yl_not rfl (h.dt 17 69 rfl rfl rfl) kI
           ·exact oI rfl fun h => yl_pick_f rfl (h.dt 14 66 rfl rfl rfl) (not_t hb164) (h.dt 18 70 rfl rfl rfl) kI
           ·exact oI rfl fun h => yl_move rfl (h.dt 19 71 rfl rfl rfl) kI
           ·exact oS rfl rfl rfl rfl rfl (not_f hb170)
           ·exact oS rfl rfl rfl rfl rfl (not_f hb170)
           ·exact oS rfl rfl rfl rfl rfl (not_f hb170)
           ·exact oU rfl rfl rfl rfl rfl
           ·exact oU rfl rfl rfl rfl rfl
           ·exact oU rfl rfl rfl rfl rfl
           ·exact oU rfl rfl rfl rfl rfl
           ·exact oU rfl rfl rfl rfl rfl
           ·exact oU rfl rfl rfl rfl rfl
           ·exact oU rfl rfl rfl rfl rfl
           ·exact oU rfl rfl rfl rfl rfl
           ·exact oU rfl rfl rfl rfl rfl
           ·exact oU rfl rfl rfl rfl rfl
           ·exact oS rfl rfl rfl rfl rfl (not_f hb170)
           ·exact oI rfl fun h => yl_pick_t rfl (h.dt 20 72 rfl rfl rfl) (not_f hb170) rfl kI
           ·intro fl951 fh952 L948 w949 hp950
            have hE953 := hp950.ex
            have hE953z := Ex.size hE953
            refine dn (CW.sub (Sub.cons (d := 1) (hp950.old 1 _ rfl rfl) (Sub.cons (d := 45) (hp950.old 45 _ rfl rfl) (Sub.cons (d := 46) (hp950.old 46 _ rfl rfl) (Sub.cons (d := 47) (hp950.old 47 _ rfl rfl) (Sub.cons (d := 57) (hp950.nt 5 57 rfl rfl rfl) (Sub.cons (d := 58) (hp950.nt 6 58 rfl rfl rfl) (Sub.cons (d := 59) (hp950.nt 7 59 rfl rfl rfl) (Sub.cons (d := 60) (hp950.nt 8 60 rfl rfl rfl) (Sub.cons (d := 61) (hp950.nt 9 61 rfl rfl rfl) (Sub.cons (d := 62) (hp950.nt 10 62 rfl rfl rfl) (Sub.cons (d := 63) (hp950.nt 11 63 rfl rfl rfl) (Sub.cons (d := 64) (hp950.nt 12 64 rfl rfl rfl) (Sub.cons (d := 67) (hp950.nt 15 67 rfl rfl rfl) (Sub.cons (d := 68) (hp950.nt 16 68 rfl rfl rfl) (Sub.cons (d := 69) (hp950.nt 17 69 rfl rfl rfl) (Sub.cons (d := 70) (hp950.nt 18 70 rfl rfl rfl) (Sub.cons (d := 73) (hp950.nt 21 73 rfl rfl rfl) (Sub.cons (d := 74) (hp950.nt 22 74 rfl rfl rfl) (Sub.cons (d := 75) (hp950.nt 23 75 rfl rfl rfl) (Sub.cons (d := 76) (hp950.nt 24 76 rfl rfl rfl) (Sub.cons (d := 77) (hp950.nt 25 77 rfl rfl rfl) (Sub.cons (d := 78) (hp950.nt 26 78 rfl rfl rfl) (Sub.cons (d := 79) (hp950.nt 27 79 rfl rfl rfl) (Sub.cons (d := 80) (hp950.nt 28 80 rfl rfl rfl) (Sub.cons (d := 81) (hp950.nt 29 81 rfl rfl rfl) (Sub.cons (d := 82) (hp950.nt 30 82 rfl rfl rfl) (Sub.cons (d := 83) (hp950.nt 31 83 rfl rfl rfl) (Sub.cons (d := 84) (hp950.nt 32 84 rfl rfl rfl) (Sub.cons (d := 85) (hp950.nt 33 85 rfl rfl rfl) (Sub.cons (d := 86) (hp950.nt 34 86 rfl rfl rfl) (Sub.cons (d := 87) (hp950.nt 35 87 rfl rfl rfl) (Sub.nil _)))))))))))))))))))))))))))))))) ?_)
            refine CW.cond_t rfl rfl (CW.seq (CW.region (sd rfl (yl_assign rfl rfl (dn (CW.ret (br (tr ?_))))))))
            refine tr ?_
            have hB986 : B_i_GoodTable_1 p_0 k91 () = .ret false := by simp only [B_i_GoodTable_1, hb16, hb21, hb23, hb159, hb164, hb170, hL90, cL]
            have hL985 : loopM (B_i_GoodTable_1 p_0) (p_0.Idxs.length - 0) 0 () = .ret false := hI136.symm.trans (loopM.ret hlt147 hB986)
            refine br (tr (rr rfl (.cons rfl .nil) ?_))
            have hM987 : (i_GoodTable p_0) = (false) := by simp only [i_GoodTable, hb16, hb21, hb23, hb159, hb164, hb170, hL90, hL985, cL]
            rw [hM987]
            exact ⟨rfl, (Ex.trans (Below.only (Ex.trans hf145 hE154) hO157 (by omega)) hE953)⟩
         ·refine CW.drawsI 36 (vgetI ([.pointer (some ⟨b149, 0 + 0, none⟩), .string (bs ((p_0.Idxs.getD k91 d_Idx).Name)), .bool ((i_areLetters ((p_0.Idxs.getD k91 d_Idx).Name) 1)), .bool (!(i_areLetters ((p_0.Idxs.getD k91 d_Idx).Name) 1)), .bool (!(i_areLetters ((p_0.Idxs.getD k91 d_Idx).Name) 1)), .pointer (some ⟨b149, 0 + 1, none⟩), .int .i64 ((p_0.Idxs.getD k91 d_Idx).Col), .pointer (some ⟨b7, 0 + 1, none⟩), .slice A1 p_0.Cols.length c1, .int .i64 ((p_0.Cols.length : Int)), .int .i64 (IntKind.wrap .i64 ((p_0.Cols.length : Int) - 1)), .bool ((i_within ((p_0.Idxs.getD k91 d_Idx).Col) 1 (IntKind.wrap .i64 ((p_0.Cols.length : Int) - 1)))), .bool (!(i_within ((p_0.Idxs.getD k91 d_Idx).Col) 1 (IntKind.wrap .i64 ((p_0.Cols.length : Int) - 1)))), .bool (!(i_within ((p_0.Idxs.getD k91 d_Idx).Col) 1 (IntKind.wrap .i64 ((p_0.Cols.length : Int) - 1)))), .bool (!(i_within ((p_0.Idxs.getD k91 d_Idx).Col) 1 (IntKind.wrap .i64 ((p_0.Cols.length : Int) - 1)))), undef, undef, undef, undef, .bool (true), .bool (true), undef, undef, undef, undef, undef, undef, undef, undef, undef, undef, undef, undef, undef, undef, .bool (true)].map DetI)) Tryz.follows rfl rfl rfl rfl rfl rfl (vgetI_stable (stD _)) ⟨?_, ?_, ?_, ?_, ?_, ?_, ?_, ?_, ?_, ?_, ?_, ?_, ?_, ?_, ?_, ?_, ?_, ?_, ?_, ?_, ?_, ?_, ?_, ?_, ?_, ?_, ?_, ?_, ?_, ?_, ?_, ?_, ?_, ?_, ?_, ?_, trivial⟩ ?_
          ·exact oI rfl fun h => yl_fieldAddr fd72_0 rfl (h.old 6 _ rfl rfl) kI
          ·exact oI rfl fun h => yl_load1 ty9 rfl (h.dt 0 52 rfl rfl rfl) (((Box.ex hB156 h.ex).cell 0).trans rfl) kI
          ·intro L1006 w1007 hi1008
           exact OpR.op' rfl (yl_call en75 rfl (oc (hi1008.dt 1 53 rfl rfl rfl) (oc rfl oz)) (Cal.mono (c_i_areLetters ((p_0.Idxs.getD k91 d_Idx).Name) 1 (okL.getD o3.2.2 ok_d_Idx _)) fun _ _ h => h))
          ·exact oI rfl fun h => yl_not rfl (h.dt 2 54 rfl rfl rfl) kI
          ·exact oI rfl fun h => yl_move rfl (h.dt 3 55 rfl rfl rfl) kI
          ·exact oW rfl rfl rfl rfl (not_t hb159) fun h => yl_fieldAddr fd72_1 rfl (h.old 6 _ rfl rfl) kI
          ·exact oW rfl rfl rfl rfl (not_t hb159) fun h => yl_load1 ty3 rfl (h.dt 5 57 rfl rfl rfl) (((Box.ex hB156 h.ex).cell 1).trans rfl) kI
          ·exact oW rfl rfl rfl rfl (not_t hb159) fun h => yl_fieldAddr fd33_1 rfl (h.old 1 _ rfl rfl) kI
          ·intro L1043 w1044 hi1045
           have hE1046 := hi1045.ex
           have hE1046z := Ex.size hE1046
           exact OpR.want rfl rfl (hi1045.dt 4 56 rfl rfl rfl) (not_t hb159) (Yl.sameI (yl_load1 ty22 rfl (hi1045.dt 7 59 rfl rfl rfl) (((Box.ex (Box.only (Box.ex hf142 hE154) hO157 (by omega)) hE1046).cell 1).trans rfl) kI))
          ·exact oW rfl rfl rfl rfl (not_t hb159) fun h => yl_len un22 rfl (h.dt 8 60 rfl rfl rfl) kI
          ·exact oW rfl rfl rfl rfl (not_t hb159) fun h => yl_sub rfl (h.dt 9 61 rfl rfl rfl) rfl kI
          ·intro L1062 w1063 hi1064
           exact OpR.want rfl rfl (hi1064.dt 4 56 rfl rfl rfl) (not_t hb159) (yl_call en76 rfl (oc (hi1064.dt 6 58 rfl rfl rfl) (oc rfl (oc (hi1064.dt 10 62 rfl rfl rfl) oz))) (Cal.mono (c_i_within ((p_0.Idxs.getD k91 d_Idx).Col) 1 (IntKind.wrap .i64 ((p_0.Cols.length : Int) - 1))) fun _ _ h => h))
          ·exact oW rfl rfl rfl rfl (not_t hb159) fun h => yl_not rfl (h.dt 11 63 rfl rfl rfl) kI
          ·exact oI rfl fun h => yl_pick_f rfl (h.dt 4 56 rfl rfl rfl) (not_t hb159) (h.dt 12 64 rfl rfl rfl) kI
          ·exact oI rfl fun h => yl_move rfl (h.dt 13 65 rfl rfl rfl) kI
          ·exact oS rfl rfl rfl rfl rfl (not_f hb164)
          ·exact oS rfl rfl rfl rfl rfl (not_f hb164)
          ·exact oS rfl rfl rfl rfl rfl (not_f hb164)
          ·exact oS rfl rfl rfl rfl rfl (not_f hb164)
          ·exact oI rfl fun h => yl_pick_t rfl (h.dt 14 66 rfl rfl rfl) (not_f hb164) rfl kI
          ·exact oI rfl fun h => yl_move rfl (h.dt 19 71 rfl rfl rfl) kI
          ·exact oS rfl rfl rfl rfl rfl rfl
          ·exact oS rfl rfl rfl rfl rfl rfl
          ·exact oS rfl rfl rfl rfl rfl rfl
          ·exact oU rfl rfl rfl rfl rfl
          ·exact oU rfl rfl rfl rfl rfl
          ·exact oU rfl rfl rfl rfl rfl
          ·exact oU rfl rfl rfl rfl rfl
          ·exact oU rfl rfl rfl rfl rfl
          ·exact oU rfl rfl rfl rfl rfl
          ·exact oU rfl rfl rfl rfl rfl
          ·exact oU rfl rfl rfl rfl rfl
          ·exact oU rfl rfl rfl rfl rfl
          ·exact oU rfl rfl rfl rfl rfl
          ·exact oS rfl rfl rfl rfl rfl rfl
          ·exact oI rfl fun h => yl_pick_t rfl (h.dt 20 72 rfl rfl rfl) rfl rfl kI
          ·intro fl1199 fh1200 L1196 w1197 hp1198
           have hE1201 := hp1198.ex
           have hE1201z := Ex.size hE1201
           refine dn (CW.sub (Sub.cons (d := 1) (hp1198.old 1 _ rfl rfl) (Sub.cons (d := 45) (hp1198.old 45 _ rfl rfl) (Sub.cons (d := 46) (hp1198.old 46 _ rfl rfl) (Sub.cons (d := 47) (hp1198.old 47 _ rfl rfl) (Sub.cons (d := 57) (hp1198.nt 5 57 rfl rfl rfl) (Sub.cons (d := 58) (hp1198.nt 6 58 rfl rfl rfl) (Sub.cons (d := 59) (hp1198.nt 7 59 rfl rfl rfl) (Sub.cons (d := 60) (hp1198.nt 8 60 rfl rfl rfl) (Sub.cons (d := 61) (hp1198.nt 9 61 rfl rfl rfl) (Sub.cons (d := 62) (hp1198.nt 10 62 rfl rfl rfl) (Sub.cons (d := 63) (hp1198.nt 11 63 rfl rfl rfl) (Sub.cons (d := 64) (hp1198.nt 12 64 rfl rfl rfl) (Sub.cons (d := 67) (hp1198.nt 15 67 rfl rfl rfl) (Sub.cons (d := 68) (hp1198.nt 16 68 rfl rfl rfl) (Sub.cons (d := 69) (hp1198.nt 17 69 rfl rfl rfl) (Sub.cons (d := 70) (hp1198.nt 18 70 rfl rfl rfl) (Sub.cons (d := 73) (hp1198.nt 21 73 rfl rfl rfl) (Sub.cons (d := 74) (hp1198.nt 22 74 rfl rfl rfl) (Sub.cons (d := 75) (hp1198.nt 23 75 rfl rfl rfl) (Sub.cons (d := 76) (hp1198.nt 24 76 rfl rfl rfl) (Sub.cons (d := 77) (hp1198.nt 25 77 rfl rfl rfl) (Sub.cons (d := 78) (hp1198.nt 26 78 rfl rfl rfl) (Sub.cons (d := 79) (hp1198.nt 27 79 rfl rfl rfl) (Sub.cons (d := 80) (hp1198.nt 28 80 rfl rfl rfl) (Sub.cons (d := 81) (hp1198.nt 29 81 rfl rfl rfl) (Sub.cons (d := 82) (hp1198.nt 30 82 rfl rfl rfl) (Sub.cons (d := 83) (hp1198.nt 31 83 rfl rfl rfl) (Sub.cons (d := 84) (hp1198.nt 32 84 rfl rfl rfl) (Sub.cons (d := 85) (hp1198.nt 33 85 rfl rfl rfl) (Sub.cons (d := 86) (hp1198.nt 34 86 rfl rfl rfl) (Sub.cons (d := 87) (hp1198.nt 35 87 rfl rfl rfl) (Sub.nil _)))))))))))))))))))))))))))))))) ?_)
           refine CW.cond_t rfl rfl (CW.seq (CW.region (sd rfl (yl_assign rfl rfl (dn (CW.ret (br (tr ?_))))))))
           refine tr ?_
           have hB1234 : B_i_GoodTable_1 p_0 k91 () = .ret false := by simp only [B_i_GoodTable_1, hb16, hb21, hb23, hb159, hb164, hL90, cL]
           have hL1233 : loopM (B_i_GoodTable_1 p_0) (p_0.Idxs.length - 0) 0 () = .ret false := hI136.symm.trans (loopM.ret hlt147 hB1234)
           refine br (tr (rr rfl (.cons rfl .nil) ?_))
           have hM1235 : (i_GoodTable p_0) = (false) := by simp only [i_GoodTable, hb16, hb21, hb23, hb159, hb164, hL90, hL1233, cL]
           rw [hM1235]
           exact ⟨rfl, (Ex.trans (Below.only (Ex.trans hf145 hE154) hO157 (by omega)) hE1201)⟩
        ·refine CW.drawsI 36 (vgetI ([.pointer (some ⟨b149, 0 + 0, none⟩), .string (bs ((p_0.Idxs.getD k91 d_Idx).Name)), .bool ((i_areLetters ((p_0.Idxs.getD k91 d_Idx).Name) 1)), .bool (!(i_areLetters ((p_0.Idxs.getD k91 d_Idx).Name) 1)), .bool (!(i_areLetters ((p_0.Idxs.getD k91 d_Idx).Name) 1)), undef, undef, undef, undef, undef, undef, undef, undef, .bool (true), .bool (true), undef, undef, undef, undef, .bool (true), .bool (true), undef, undef, undef, undef, undef, undef, undef, undef, undef, undef, undef, undef, undef, undef, .bool (true)].map DetI)) Tryz.follows rfl rfl rfl rfl rfl rfl (vgetI_stable (stD _)) ⟨?_, ?_, ?_, ?_, ?_, ?_, ?_, ?_, ?_, ?_, ?_, ?_, ?_, ?_, ?_, ?_, ?_, ?_, ?_, ?_, ?_, ?_, ?_, ?_, ?_, ?_, ?_, ?_, ?_, ?_, ?_, ?_, ?_, ?_, ?_, ?_, trivial⟩ ?_
         ·exact oI rfl fun h => yl_fieldAddr fd72_0 rfl (h.old 6 _ rfl rfl) kI
         ·exact oI rfl fun h => yl_load1 ty9 rfl (h.dt 0 52 rfl rfl rfl) (((Box.ex hB156 h.ex).cell 0).trans rfl) kI
         ·intro L1251 w1252 hi1253
          exact OpR.op' rfl (yl_call en75 rfl (oc (hi1253.dt 1 53 rfl rfl rfl) (oc rfl oz)) (Cal.mono (c_i_areLetters ((p_0.Idxs.getD k91 d_Idx).Name) 1 (okL.getD o3.2.2 ok_d_Idx _)) fun _ _ h => h))
         ·exact oI rfl fun h => yl_not rfl (h.dt 2 54 rfl rfl rfl) kI
         ·exact oI rfl fun h => yl_move rfl (h.dt 3 55 rfl rfl rfl) kI
         ·exact oS rfl rfl rfl rfl rfl (not_f hb159)
         ·exact oS rfl rfl rfl rfl rfl (not_f hb159)
         ·exact oS rfl rfl rfl rfl rfl (not_f hb159)
         ·exact oS rfl rfl rfl rfl rfl (not_f hb159)
         ·exact oS rfl rfl rfl rfl rfl (not_f hb159)
         ·exact oS rfl rfl rfl rfl rfl (not_f hb159)
         ·exact oS rfl rfl rfl rfl rfl (not_f hb159)
         ·exact oS rfl rfl rfl rfl rfl (not_f hb159)
         ·exact oI rfl fun h => yl_pick_t rfl (h.dt 4 56 rfl rfl rfl) (not_f hb159) rfl kI
         ·exact oI rfl fun h => yl_move rfl (h.dt 13 65 rfl rfl rfl) kI
         ·exact oS rfl rfl rfl rfl rfl rfl
         ·exact oS rfl rfl rfl rfl rfl rfl
         ·exact oS rfl rfl rfl rfl rfl rfl
         ·exact oS rfl rfl rfl rfl rfl rfl
         ·exact oI rfl fun h => yl_pick_t rfl (h.dt 14 66 rfl rfl rfl) rfl rfl kI
         ·exact oI rfl fun h => yl_move rfl (h.dt 19 71 rfl rfl rfl) kI
         ·exact oS rfl rfl rfl rfl rfl rfl
         ·exact oS rfl rfl rfl rfl rfl rfl
         ·exact oS rfl rfl rfl rfl rfl rfl
         ·exact oU rfl rfl rfl rfl rfl
         ·exact oU rfl rfl rfl rfl rfl
         ·exact oU rfl rfl rfl rfl rfl
         ·exact oU rfl rfl rfl rfl rfl
         ·exact oU rfl rfl rfl rfl rfl
         ·exact oU rfl rfl rfl rfl rfl
         ·exact oU rfl rfl rfl rfl rfl
         ·exact oU rfl rfl rfl rfl rfl
         ·exact oU rfl rfl rfl rfl rfl
         ·exact oU rfl rfl rfl rfl rfl
         ·exact oS rfl rfl rfl rfl rfl rfl
         ·exact oI rfl fun h => yl_pick_t rfl (h.dt 20 72 rfl rfl rfl) rfl rfl kI
         ·intro fl1430 fh1431 L1427 w1428 hp1429
          have hE1432 := hp1429.ex
          have hE1432z := Ex.size hE1432
          refine dn (CW.sub (Sub.cons (d := 1) (hp1429.old 1 _ rfl rfl) (Sub.cons (d := 45) (hp1429.old 45 _ rfl rfl) (Sub.cons (d := 46) (hp1429.old 46 _ rfl rfl) (Sub.cons (d := 47) (hp1429.old 47 _ rfl rfl) (Sub.cons (d := 57) (hp1429.nt 5 57 rfl rfl rfl) (Sub.cons (d := 58) (hp1429.nt 6 58 rfl rfl rfl) (Sub.cons (d := 59) (hp1429.nt 7 59 rfl rfl rfl) (Sub.cons (d := 60) (hp1429.nt 8 60 rfl rfl rfl) (Sub.cons (d := 61) (hp1429.nt 9 61 rfl rfl rfl) (Sub.cons (d := 62) (hp1429.nt 10 62 rfl rfl rfl) (Sub.cons (d := 63) (hp1429.nt 11 63 rfl rfl rfl) (Sub.cons (d := 64) (hp1429.nt 12 64 rfl rfl rfl) (Sub.cons (d := 67) (hp1429.nt 15 67 rfl rfl rfl) (Sub.cons (d := 68) (hp1429.nt 16 68 rfl rfl rfl) (Sub.cons (d := 69) (hp1429.nt 17 69 rfl rfl rfl) (Sub.cons (d := 70) (hp1429.nt 18 70 rfl rfl rfl) (Sub.cons (d := 73) (hp1429.nt 21 73 rfl rfl rfl) (Sub.cons (d := 74) (hp1429.nt 22 74 rfl rfl rfl) (Sub.cons (d := 75) (hp1429.nt 23 75 rfl rfl rfl) (Sub.cons (d := 76) (hp1429.nt 24 76 rfl rfl rfl) (Sub.cons (d := 77) (hp1429.nt 25 77 rfl rfl rfl) (Sub.cons (d := 78) (hp1429.nt 26 78 rfl rfl rfl) (Sub.cons (d := 79) (hp1429.nt 27 79 rfl rfl rfl) (Sub.cons (d := 80) (hp1429.nt 28 80 rfl rfl rfl) (Sub.cons (d := 81) (hp1429.nt 29 81 rfl rfl rfl) (Sub.cons (d := 82) (hp1429.nt 30 82 rfl rfl rfl) (Sub.cons (d := 83) (hp1429.nt 31 83 rfl rfl rfl) (Sub.cons (d := 84) (hp1429.nt 32 84 rfl rfl rfl) (Sub.cons (d := 85) (hp1429.nt 33 85 rfl rfl rfl) (Sub.cons (d := 86) (hp1429.nt 34 86 rfl rfl rfl) (Sub.cons (d := 87) (hp1429.nt 35 87 rfl rfl rfl) (Sub.nil _)))))))))))))))))))))))))))))))) ?_)
          refine CW.cond_t rfl rfl (CW.seq (CW.region (sd rfl (yl_assign rfl rfl (dn (CW.ret (br (tr ?_))))))))
          refine tr ?_
          have hB1465 : B_i_GoodTable_1 p_0 k91 () = .ret false := by simp only [B_i_GoodTable_1, hb16, hb21, hb23, hb159, hL90, cL]
          have hL1464 : loopM (B_i_GoodTable_1 p_0) (p_0.Idxs.length - 0) 0 () = .ret false := hI136.symm.trans (loopM.ret hlt147 hB1465)
          refine br (tr (rr rfl (.cons rfl .nil) ?_))
          have hM1466 : (i_GoodTable p_0) = (false) := by simp only [i_GoodTable, hb16, hb21, hb23, hb159, hL90, hL1464, cL]
          rw [hM1466]
          exact ⟨rfl, (Ex.trans (Below.only (Ex.trans hf145 hE154) hO157 (by omega)) hE1432)⟩
       ·refine CW.seq (CW.region (sd rfl (yl_lss rfl rfl rfl (dn (CW.seq (CW.cond_f rfl (lt_f hlt147) (CW.exit (tx ?_))))))))
        refine tx ?_
        have hL1470 : loopM (B_i_GoodTable_1 p_0) (p_0.Idxs.length - 0) 0 () = .done () := hI136.symm.trans (loopM.stop hlt147)
        refine bx (tn (CW.seq (CW.region (sd rfl (yl_assign rfl rfl (dn (CW.ret (rr rfl (.cons rfl .nil) ?_))))))))
        have hM1471 : (i_GoodTable p_0) = (true) := by simp only [i_GoodTable, hb16, hb21, hb23, hL90, hL1470, cL]
        rw [hM1471]
        exact ⟨rfl, hf145⟩
  ·refine sz rfl rfl (not_f hb21) (sz rfl rfl (not_f hb21) (sz rfl rfl (not_f hb21) (sz rfl rfl (not_f hb21) (sd rfl (yl_pick_t rfl rfl (not_f hb21) rfl (dn (CW.cond_t rfl rfl (CW.seq ?_))))))))
   refine CW.region (sd rfl (yl_assign rfl rfl (dn (CW.ret (tr (rr rfl (.cons rfl .nil) ?_))))))
   have hM1472 : (i_GoodTable p_0) = (false) := by simp only [i_GoodTable, hb16, hb21, cL]
   rw [hM1472]
   exact ⟨rfl, (Ex.trans (Ex.trans (Ex.trans (Ex.refl w) hE12) hE15) hE20)⟩
 ·refine sz rfl rfl (not_f hb16) (sz rfl rfl (not_f hb16) (sz rfl rfl (not_f hb16) (sz rfl rfl (not_f hb16) (sz rfl rfl (not_f hb16) (sd rfl (yl_pick_t rfl rfl (not_f hb16) rfl (sd rfl (yl_move rfl rfl (sz rfl rfl rfl (sz rfl rfl rfl ?_))))))))))
  refine sz rfl rfl rfl (sz rfl rfl rfl (sd rfl (yl_pick_t rfl rfl rfl rfl (dn (CW.cond_t rfl rfl (CW.seq (CW.region (sd rfl (yl_assign rfl rfl ?_)))))))))
  refine dn (CW.ret (tr (rr rfl (.cons rfl .nil) ?_)))
  have hM1476 : (i_GoodTable p_0) = (false) := by simp only [i_GoodTable, hb16, cL]
  rw [hM1476]
  exact ⟨rfl, (Ex.trans (Ex.trans (Ex.refl w) hE12) hE15)⟩
theorem c_g_slices_IndexFunc_Idx {A1 : Option Addr} {c1 : Nat} {g3 : Nat} {cp4 : List Value} {w : World} (p_s : List DIdx) (p_f : DIdx → Bool) (h1 : RdS w (Iv 0 w.heap.size) (RF e_Idx) 3 A1 p_s.length c1 p_s) (hen5 : Go.X.Enters Tryz.prog g3) (hfn6 : ∀ (w1 : World) (y0 : DIdx), Ex w w1 → y0 ∈ p_s → ok_Idx y0 → Cal Tryz.prog g3 (([.agg #[.string (bs (y0.Name)), .int .i64 (y0.Col), .int .i64 (y0.Stage)]] : List Value) ++ cp4).toArray w1 fun v w2 => v = .bool (p_f y0) ∧ Ex w1 w2) (o2 : (okL ok_Idx) p_s) : Cal Tryz.prog 78 #[.slice A1 p_s.length c1, .func (.func g3) #[] cp4.toArray] w fun v w' => v = .int .i64 ((g_slices_IndexFunc_Idx p_s p_f)) ∧ Ex w w' := by
 have hol7 := o2.1
 refine Cal.of func78 rfl ntmps78 rfl (CW.seq (CW.region (sd rfl (yl_assign rfl rfl (dn (CW.seq (CW.seq (CW.region ?_))))))))
 refine sd rfl (yl_move rfl rfl (sd rfl (yl_len un31 rfl rfl (sd rfl (yl_move rfl rfl (dn (CW.block (CW.loop (fun m9 L10 w11 => ∃ (k8 : Nat), m9 = p_s.length - k8 ∧ k8 ≤ p_s.length ∧ w.heap.size ≤ w11.heap.size ∧ lkp L10 0 = some (.slice A1 p_s.length c1) ∧ lkp L10 1 = some (.func (.func g3) #[] cp4.toArray) ∧ lkp L10 7 = some (.int .i64 ((p_s.length : Int))) ∧ lkp L10 8 = some (.int .i64 ((k8 : Int))) ∧ RdS w11 (Iv 0 w.heap.size) (RF e_Idx) 3 A1 p_s.length c1 p_s ∧ Ex w w11 ∧ loopM (B_g_slices_IndexFunc_Idx_0 p_s p_f) (p_s.length - k8) k8 () = loopM (B_g_slices_IndexFunc_Idx_0 p_s p_f) (p_s.length - 0) 0 ()) (p_s.length - 0) ?_ ?_))))))))
 ·exact ⟨0, rfl, (by omega), Nat.le_refl _, rfl, rfl, rfl, rfl, h1, (Ex.refl w), rfl⟩
 ·rintro m12 L13 w14 ⟨k8, rfl, hk15, hsz17, hl18, hl19, hl20, hl21, hf22, hf23, hI16⟩
  refine CW.sub (Sub.cons hl18 (Sub.cons hl19 (Sub.cons hl20 (Sub.cons hl21 (Sub.nil _))))) ?_
  have hf23z := Ex.size hf23
  have hbg24 := RdS.big hf22
  rcases Nat.lt_or_ge k8 p_s.length with hlt25 | hlt25
  ·refine CW.seq (CW.region (sd rfl (yl_lss rfl rfl rfl (dn (CW.seq (CW.cond_t rfl (lt_t hlt25) (CW.skip (tn ?_))))))))
   refine CW.seq (CW.block (CW.seq (CW.region (sd rfl (yl_move rfl rfl (sd rfl (yl_assign rfl rfl (dn (CW.seq ?_)))))))))
   refine CW.region (sd rfl (yl_move rfl rfl (sd rfl (yl_move rfl rfl (sd rfl (yl_move rfl rfl ?_))))))
   obtain ⟨eb26, eo26, _, eA26, _, ebl26, _, eR26, eC26⟩ := RdS.aD hf22 d_Idx (i := k8)
   obtain rfl := eR26
   have eC26 : Cells w14 eb26 (eo26 + k8 * 3) [.string (bs ((p_s.getD k8 d_Idx).Name)), .int .i64 ((p_s.getD k8 d_Idx).Col), .int .i64 ((p_s.getD k8 d_Idx).Stage)] := eC26
   refine sd rfl (yl_ixN un31 ty72 rfl rfl rfl eA26 (sd rfl (yl_loadN ty72 rfl rfl eC26 rfl (sd rfl (yl_callv hen5 rfl rfl (oc rfl oz) (Cal.mono (hfn6 w14 (p_s.getD k8 d_Idx) hf23 (getD_mem (by omega)) (okL.getD o2 ok_d_Idx _)) ?_))))))
   rintro v28 w27 ⟨rfl, hE29⟩
   have hE29z := Ex.size hE29
   refine dn (bcase (p_f (p_s.getD k8 d_Idx)) (fun hb30 => ?_) (fun hb30 => ?_))
   ·refine CW.cond_t rfl hb30 (CW.seq (CW.region (sd rfl (yl_move rfl rfl (sd rfl (yl_assign rfl rfl (dn (CW.ret (br ?_)))))))))
    refine tr (tr ?_)
    have hB32 : B_g_slices_IndexFunc_Idx_0 p_s p_f k8 () = .ret (k8 : Int) := by simp only [B_g_slices_IndexFunc_Idx_0, hb30, cL]
    have hL31 : loopM (B_g_slices_IndexFunc_Idx_0 p_s p_f) (p_s.length - 0) 0 () = .ret (k8 : Int) := hI16.symm.trans (loopM.ret hlt25 hB32)
    refine br (tr (rr rfl (.cons rfl .nil) ?_))
    have hM33 : (g_slices_IndexFunc_Idx p_s p_f) = ((k8 : Int)) := by simp only [g_slices_IndexFunc_Idx, hb30, hL31, cL]
    rw [hM33]
    exact ⟨rfl, (Ex.trans hf23 hE29)⟩
   ·refine CW.cond_f rfl hb30 (CW.skip (bn (tn (CW.region (sd rfl (yl_inc rfl rfl rfl (by omega) (sd rfl (yl_move rfl rfl (dn ?_)))))))))
    have hB35 : B_g_slices_IndexFunc_Idx_0 p_s p_f k8 () = .cont () := by simp only [B_g_slices_IndexFunc_Idx_0, hb30, cL]
    exact ⟨p_s.length - (k8 + 1), by omega, k8 + 1, rfl, hlt25, (by omega), rfl, rfl, rfl, rfl, (RdS.ex good_Idx hf22 hE29), (Ex.trans hf23 hE29), (loopM.cont hlt25 hB35).symm.trans hI16⟩
  ·refine CW.seq (CW.region (sd rfl (yl_lss rfl rfl rfl (dn (CW.seq (CW.cond_f rfl (lt_f hlt25) (CW.exit (tx ?_))))))))
   refine tx ?_
   have hL38 : loopM (B_g_slices_IndexFunc_Idx_0 p_s p_f) (p_s.length - 0) 0 () = .done () := hI16.symm.trans (loopM.stop hlt25)
   refine bx (tn (CW.seq (CW.region (sd rfl (yl_assign rfl rfl (dn (CW.ret (rr rfl (.cons rfl .nil) ?_))))))))
   have hM39 : (g_slices_IndexFunc_Idx p_s p_f) = (-1) := by simp only [g_slices_IndexFunc_Idx, hL38, cL]
   rw [hM39]
   exact ⟨rfl, hf23⟩
theorem c_i_Table_findIdx_c1 {b2 : Nat} {w : World} (p_x : DIdx) (p_cap0 : Str) (h3 : Box w b2 9 [.string (bs (p_cap0))]) (o1 : ok_Idx p_x) (o4 : okS p_cap0) : Cal Tryz.prog 79 #[.agg #[.string (bs (p_x.Name)), .int .i64 (p_x.Col), .int .i64 (p_x.Stage)], .pointer (some ⟨b2, 0, none⟩)] w fun v w' => v = .bool ((i_Table_findIdx_c1 p_x p_cap0)) ∧ Ex w w' := by
 refine Cal.of func79 rfl ntmps79 rfl (CW.seq (CW.region (sd rfl (yl_box rfl rfl rfl ?_))))
 intro b7 w8 hs9 hz10 hB11 hE12
 refine sd rfl (yl_assign rfl rfl (dn (CW.seq (CW.region (sd rfl (yl_fieldAddr fd72_0 rfl rfl (sd rfl (yl_load1 ty9 rfl rfl ((hB11.cell 0).trans rfl) (sd rfl (yl_load1 ty9 rfl rfl (((Box.ex h3 hE12).cell 0).trans rfl) (sd rfl (yl_seql (a := p_x.Name) (b := p_cap0) rfl rfl rfl ?_))))))))))))
 refine sd rfl (yl_assign rfl rfl (dn (CW.ret (rr rfl (.cons rfl .nil) ?_))))
 have hM14 : (i_Table_findIdx_c1 p_x p_cap0) = (p_x.Name == p_cap0) := by simp only [i_Table_findIdx_c1, cL]
 rw [hM14]
 exact ⟨rfl, (Ex.trans (Ex.refl w) hE12)⟩
theorem c_i_Table_findIdx {A1 : Option Addr} {c1 : Nat} {A2 : Option Addr} {c2 : Nat} {w : World} (p_t : DTable) (p_name : Str) (h1 : RdS w (Iv 0 w.heap.size) (RF e_Str) 1 A1 p_t.Cols.length c1 p_t.Cols) (h2 : RdS w (Iv 0 w.heap.size) (RF e_Idx) 3 A2 p_t.Idxs.length c2 p_t.Idxs) (o3 : ok_Table p_t) (o4 : okS p_name) : Cal Tryz.prog 60 #[.agg #[.string (bs (p_t.Name)), .slice A1 p_t.Cols.length c1, .slice A2 p_t.Idxs.length c2], .string (bs (p_name))] w fun v w' => v = .int .i64 ((i_Table_findIdx p_t p_name)) ∧ Ex w w' := by
 refine Cal.of func60 rfl ntmps60 rfl (CW.seq (CW.region (sd rfl (yl_box rfl rfl rfl ?_))))
 intro b9 w10 hs11 hz12 hB13 hE14
 refine sd rfl (yl_box rfl rfl rfl ?_)
 intro b15 w16 hs17 hz18 hB19 hE20
 refine sd rfl (yl_assign rfl rfl (dn (CW.seq (CW.region (sd rfl (yl_fieldAddr fd33_2 rfl rfl (sd rfl (yl_load1 ty31 rfl rfl (((Box.ex hB13 hE20).cell 2).trans rfl) (sd rfl (yl_makeFunc rfl (oc rfl oz) (sd rfl (yl_call en78 rfl (oc rfl (oc rfl oz)) (Cal.mono (c_g_slices_IndexFunc_Idx p_t.Idxs (fun y0 => i_Table_findIdx_c1 y0 p_name) (RdS.up (RdS.ex good_Idx (RdS.ex good_Idx h2 hE14) hE20) good_Idx) en79 (fun _ y0 => fun hE hm0 ov0 => c_i_Table_findIdx_c1 y0 p_name (Box.ex hB19 hE) ov0 o4) o3.2.2) ?_)))))))))))))
 rintro v25 w24 ⟨rfl, hE26⟩
 refine sd rfl (yl_assign rfl rfl (dn (CW.ret (rr rfl (.cons rfl .nil) ?_))))
 have hM27 : (i_Table_findIdx p_t p_name) = ((g_slices_IndexFunc_Idx p_t.Idxs (fun y0 => i_Table_findIdx_c1 y0 p_name))) := by simp only [i_Table_findIdx, cL]
 rw [hM27]
 exact ⟨rfl, (Ex.trans (Ex.trans (Ex.trans (Ex.refl w) hE14) hE20) hE26)⟩
theorem c_i_hasIdx {A1 : Option Addr} {c1 : Nat} {A2 : Option Addr} {c2 : Nat} {w : World} (p_t : DTable) (p_name : Str) (h1 : RdS w (Iv 0 w.heap.size) (RF e_Str) 1 A1 p_t.Cols.length c1 p_t.Cols) (h2 : RdS w (Iv 0 w.heap.size) (RF e_Idx) 3 A2 p_t.Idxs.length c2 p_t.Idxs) (o3 : ok_Table p_t) (o4 : okS p_name) : Cal Tryz.prog 46 #[.agg #[.string (bs (p_t.Name)), .slice A1 p_t.Cols.length c1, .slice A2 p_t.Idxs.length c2], .string (bs (p_name))] w fun v w' => v = .bool ((i_hasIdx p_t p_name)) ∧ Ex w w' := by
 refine Cal.of func46 rfl ntmps46 rfl (CW.seq (CW.region (sd rfl (yl_box rfl rfl rfl ?_))))
 intro b9 w10 hs11 hz12 hB13 hE14
 refine sd rfl (yl_assign rfl rfl (dn (CW.seq (CW.region (sd rfl (yl_loadN ty33 rfl rfl (hB13.cells (n := 3) rfl) rfl ?_))))))
 have q15 := RdS.ex good_Str h1 hE14
 have q16 := RdS.ex good_Idx h2 hE14
 refine sd rfl (yl_call en59 rfl (oc rfl oz) (Cal.mono (c_i_GoodTable p_t (RdS.up q15 good_Str) (RdS.up q16 good_Idx) o3) ?_))
 rintro v18 w17 ⟨rfl, hE19⟩
 refine sd rfl (yl_move rfl rfl (bcase (i_GoodTable p_t) (fun hb20 => ?_) (fun hb20 => ?_)))
 ·have hb20p := f_i_GoodTable hb20
  refine sy rfl rfl hb20 (yl_loadN ty33 rfl rfl ((Box.ex hB13 hE19).cells (n := 3) rfl) rfl (sy rfl rfl hb20 (yl_move rfl rfl (sy rfl rfl hb20 (yl_call en60 rfl (oc rfl (oc rfl oz)) (Cal.mono (c_i_Table_findIdx p_t p_name (RdS.up (RdS.ex good_Str q15 hE19) good_Str) (RdS.up (RdS.ex good_Idx q16 hE19) good_Idx) o3 o4) ?_))))))
  rintro v25 w24 ⟨rfl, hE26⟩
  have hrf27 := rf_i_findIdx p_t p_name
  refine sy rfl rfl hb20 (yl_geq rfl rfl rfl (sd rfl (yl_pick_t rfl rfl hb20 rfl (sd rfl (yl_assign rfl rfl (dn (CW.ret (rr rfl (.cons rfl .nil) ?_))))))))
  have hM28 : (i_hasIdx p_t p_name) = (decide (0 ≤ (i_Table_findIdx p_t p_name))) := by simp only [i_hasIdx, hb20, cL]
  rw [hM28]
  exact ⟨rfl, (Ex.trans (Ex.trans (Ex.trans (Ex.refl w) hE14) hE19) hE26)⟩
 ·refine sz rfl rfl hb20 (sz rfl rfl hb20 (sz rfl rfl hb20 (sz rfl rfl hb20 (sd rfl (yl_pick_f rfl rfl hb20 rfl (sd rfl (yl_assign rfl rfl (dn (CW.ret ?_)))))))))
  refine rr rfl (.cons rfl .nil) ?_
  have hM32 : (i_hasIdx p_t p_name) = (false) := by simp only [i_hasIdx, hb20, cL]
  rw [hM32]
  exact ⟨rfl, (Ex.trans (Ex.trans (Ex.refl w) hE14) hE19)⟩
theorem c_g_slices_IndexFunc_Write {A1 : Option Addr} {c1 : Nat} {g3 : Nat} {cp4 : List Value} {w : World} (p_s : List DWrite) (p_f : DWrite → Bool) (h1 : RdS w (Iv 0 w.heap.size) (RF e_Write) 3 A1 p_s.length c1 p_s) (hen5 : Go.X.Enters Tryz.prog g3) (hfn6 : ∀ (w1 : World) (y0 : DWrite), Ex w w1 → y0 ∈ p_s → ok_Write y0 → Cal Tryz.prog g3 (([.agg #[.string (bs (y0.Key)), .string (bs (y0.Val)), .bool (y0.Gone)]] : List Value) ++ cp4).toArray w1 fun v w2 => v = .bool (p_f y0) ∧ Ex w1 w2) (o2 : (okL ok_Write) p_s) : Cal Tryz.prog 84 #[.slice A1 p_s.length c1, .func (.func g3) #[] cp4.toArray] w fun v w' => v = .int .i64 ((g_slices_IndexFunc_Write p_s p_f)) ∧ Ex w w' := by
 have hol7 := o2.1
 refine Cal.of func84 rfl ntmps84 rfl (CW.seq (CW.region (sd rfl (yl_assign rfl rfl (dn (CW.seq (CW.seq (CW.region ?_))))))))
 refine sd rfl (yl_move rfl rfl (sd rfl (yl_len un35 rfl rfl (sd rfl (yl_move rfl rfl (dn (CW.block (CW.loop (fun m9 L10 w11 => ∃ (k8 : Nat), m9 = p_s.length - k8 ∧ k8 ≤ p_s.length ∧ w.heap.size ≤ w11.heap.size ∧ lkp L10 0 = some (.slice A1 p_s.length c1) ∧ lkp L10 1 = some (.func (.func g3) #[] cp4.toArray) ∧ lkp L10 7 = some (.int .i64 ((p_s.length : Int))) ∧ lkp L10 8 = some (.int .i64 ((k8 : Int))) ∧ RdS w11 (Iv 0 w.heap.size) (RF e_Write) 3 A1 p_s.length c1 p_s ∧ Ex w w11 ∧ loopM (B_g_slices_IndexFunc_Write_0 p_s p_f) (p_s.length - k8) k8 () = loopM (B_g_slices_IndexFunc_Write_0 p_s p_f) (p_s.length - 0) 0 ()) (p_s.length - 0) ?_ ?_))))))))
 ·exact ⟨0, rfl, (by omega), Nat.le_refl _, rfl, rfl, rfl, rfl, h1, (Ex.refl w), rfl⟩
 ·rintro m12 L13 w14 ⟨k8, rfl, hk15, hsz17, hl18, hl19, hl20, hl21, hf22, hf23, hI16⟩
  refine CW.sub (Sub.cons hl18 (Sub.cons hl19 (Sub.cons hl20 (Sub.cons hl21 (Sub.nil _))))) ?_
  have hf23z := Ex.size hf23
  have hbg24 := RdS.big hf22
  rcases Nat.lt_or_ge k8 p_s.length with hlt25 | hlt25
  ·refine CW.seq (CW.region (sd rfl (yl_lss rfl rfl rfl (dn (CW.seq (CW.cond_t rfl (lt_t hlt25) (CW.skip (tn ?_))))))))
   refine CW.seq (CW.block (CW.seq (CW.region (sd rfl (yl_move rfl rfl (sd rfl (yl_assign rfl rfl (dn (CW.seq ?_)))))))))
   refine CW.region (sd rfl (yl_move rfl rfl (sd rfl (yl_move rfl rfl (sd rfl (yl_move rfl rfl ?_))))))
   obtain ⟨eb26, eo26, _, eA26, _, ebl26, _, eR26, eC26⟩ := RdS.aD hf22 d_Write (i := k8)
   obtain rfl := eR26
   have eC26 : Cells w14 eb26 (eo26 + k8 * 3) [.string (bs ((p_s.getD k8 d_Write).Key)), .string (bs ((p_s.getD k8 d_Write).Val)), .bool ((p_s.getD k8 d_Write).Gone)] := eC26
   refine sd rfl (yl_ixN un35 ty53 rfl rfl rfl eA26 (sd rfl (yl_loadN ty53 rfl rfl eC26 rfl (sd rfl (yl_callv hen5 rfl rfl (oc rfl oz) (Cal.mono (hfn6 w14 (p_s.getD k8 d_Write) hf23 (getD_mem (by omega)) (okL.getD o2 ok_d_Write _)) ?_))))))
   rintro v28 w27 ⟨rfl, hE29⟩
   have hE29z := Ex.size hE29
   refine dn (bcase (p_f (p_s.getD k8 d_Write)) (fun hb30 => ?_) (fun hb30 => ?_))
   ·refine CW.cond_t rfl hb30 (CW.seq (CW.region (sd rfl (yl_move rfl rfl (sd rfl (yl_assign rfl rfl (dn (CW.ret (br ?_)))))))))
    refine tr (tr ?_)
    have hB32 : B_g_slices_IndexFunc_Write_0 p_s p_f k8 () = .ret (k8 : Int) := by simp only [B_g_slices_IndexFunc_Write_0, hb30, cL]
    have hL31 : loopM (B_g_slices_IndexFunc_Write_0 p_s p_f) (p_s.length - 0) 0 () = .ret (k8 : Int) := hI16.symm.trans (loopM.ret hlt25 hB32)
    refine br (tr (rr rfl (.cons rfl .nil) ?_))
    have hM33 : (g_slices_IndexFunc_Write p_s p_f) = ((k8 : Int)) := by simp only [g_slices_IndexFunc_Write, hb30, hL31, cL]
    rw [hM33]
    exact ⟨rfl, (Ex.trans hf23 hE29)⟩
   ·refine CW.cond_f rfl hb30 (CW.skip (bn (tn (CW.region (sd rfl (yl_inc rfl rfl rfl (by omega) (sd rfl (yl_move rfl rfl (dn ?_)))))))))
    have hB35 : B_g_slices_IndexFunc_Write_0 p_s p_f k8 () = .cont () := by simp only [B_g_slices_IndexFunc_Write_0, hb30, cL]
    exact ⟨p_s.length - (k8 + 1), by omega, k8 + 1, rfl, hlt25, (by omega), rfl, rfl, rfl, rfl, (RdS.ex good_Write hf22 hE29), (Ex.trans hf23 hE29), (loopM.cont hlt25 hB35).symm.trans hI16⟩
  ·refine CW.seq (CW.region (sd rfl (yl_lss rfl rfl rfl (dn (CW.seq (CW.cond_f rfl (lt_f hlt25) (CW.exit (tx ?_))))))))
   refine tx ?_
   have hL38 : loopM (B_g_slices_IndexFunc_Write_0 p_s p_f) (p_s.length - 0) 0 () = .done () := hI16.symm.trans (loopM.stop hlt25)
   refine bx (tn (CW.seq (CW.region (sd rfl (yl_assign rfl rfl (dn (CW.ret (rr rfl (.cons rfl .nil) ?_))))))))
   have hM39 : (g_slices_IndexFunc_Write p_s p_f) = (-1) := by simp only [g_slices_IndexFunc_Write, hL38, cL]
   rw [hM39]
   exact ⟨rfl, hf23⟩
theorem c_g_slices_ContainsFunc_Write {A1 : Option Addr} {c1 : Nat} {g3 : Nat} {cp4 : List Value} {w : World} (p_s : List DWrite) (p_f : DWrite → Bool) (h1 : RdS w (Iv 0 w.heap.size) (RF e_Write) 3 A1 p_s.length c1 p_s) (hen5 : Go.X.Enters Tryz.prog g3) (hfn6 : ∀ (w1 : World) (y0 : DWrite), Ex w w1 → y0 ∈ p_s → ok_Write y0 → Cal Tryz.prog g3 (([.agg #[.string (bs (y0.Key)), .string (bs (y0.Val)), .bool (y0.Gone)]] : List Value) ++ cp4).toArray w1 fun v w2 => v = .bool (p_f y0) ∧ Ex w1 w2) (o2 : (okL ok_Write) p_s) : Cal Tryz.prog 62 #[.slice A1 p_s.length c1, .func (.func g3) #[] cp4.toArray] w fun v w' => v = .bool ((g_slices_ContainsFunc_Write p_s p_f)) ∧ Ex w w' := by
 refine Cal.of func62 rfl ntmps62 rfl (CW.seq (CW.region (sd rfl (yl_assign rfl rfl (dn (CW.seq (CW.region (sd rfl (yl_move rfl rfl ?_)))))))))
 refine sd rfl (yl_move rfl rfl (sd rfl (yl_call en84 rfl (oc rfl (oc rfl oz)) (Cal.mono (c_g_slices_IndexFunc_Write p_s p_f (RdS.up h1 good_Write) hen5 (fun w1 y0 => fun hE => hfn6 w1 y0 (Ex.trans (Ex.refl w) hE)) o2) ?_))))
 rintro v9 w8 ⟨rfl, hE10⟩
 refine sd rfl (yl_geq rfl rfl rfl (sd rfl (yl_assign rfl rfl (dn (CW.ret (rr rfl (.cons rfl .nil) ?_))))))
 have hM11 : (g_slices_ContainsFunc_Write p_s p_f) = (decide (0 ≤ (g_slices_IndexFunc_Write p_s p_f))) := by simp only [g_slices_ContainsFunc_Write, cL]
 rw [hM11]
 exact ⟨rfl, (Ex.trans (Ex.refl w) hE10)⟩
theorem c_i_isLowerOrDigit {w : World} (p_b : Int) : Cal Tryz.prog 110 #[.int .u8 (p_b)] w fun v w' => v = .bool ((i_isLowerOrDigit p_b)) ∧ Ex w w' := by
 refine Cal.of func110 rfl ntmps110 rfl (CW.seq (CW.region (sd rfl (yl_assign rfl rfl (dn (CW.seq (CW.region (sd rfl (yl_move rfl rfl ?_)))))))))
 refine sd rfl (yl_geq rfl rfl rfl (sd rfl (yl_move rfl rfl (bcase (decide (97 ≤ p_b)) (fun hb1 => ?_) (fun hb1 => ?_)))))
 ·have hb1p := dec_t hb1
  refine sy rfl rfl hb1 (yl_move rfl rfl (sy rfl rfl hb1 (yl_leq rfl rfl rfl (sd rfl (yl_pick_t rfl rfl hb1 rfl (sd rfl (yl_move rfl rfl (bcase (decide (p_b ≤ 122)) (fun hb2 => ?_) (fun hb2 => ?_)))))))))
  ·have hb2p := dec_t hb2
   refine sz rfl rfl hb2 (sz rfl rfl hb2 (sz rfl rfl hb2 (sq rfl rfl (sq rfl rfl (sz rfl rfl hb2 (sd rfl (yl_pick_t rfl rfl hb2 rfl (sd rfl (yl_assign rfl rfl (SeqR.done ?_))))))))))
   refine tn (CW.ret (rr rfl (.cons rfl .nil) ?_))
   have hM3 : (i_isLowerOrDigit p_b) = (true) := by simp only [i_isLowerOrDigit, hb1, hb2, cL]
   rw [hM3]
   exact ⟨rfl, (Ex.refl w)⟩
  ·have hb2p := dec_f hb2
   refine sy rfl rfl hb2 (yl_move rfl rfl (sy rfl rfl hb2 (yl_geq rfl rfl rfl (sy rfl rfl hb2 (yl_move rfl rfl (bcase (decide (48 ≤ p_b)) (fun hb4 => ?_) (fun hb4 => ?_)))))))
   ·have hb4p := dec_t hb4
    refine sy rfl rfl hb4 (yl_move rfl rfl (sy rfl rfl hb4 (yl_leq rfl rfl rfl (sy rfl rfl hb2 (yl_pick_t rfl rfl hb4 rfl (sd rfl (yl_pick_f rfl rfl hb2 rfl (sd rfl (yl_assign rfl rfl (dn (CW.ret (rr rfl (.cons rfl .nil) ?_))))))))))))
    have hM5 : (i_isLowerOrDigit p_b) = (decide (p_b ≤ 57)) := by simp only [i_isLowerOrDigit, hb1, hb2, hb4, cL]
    rw [hM5]
    exact ⟨rfl, (Ex.refl w)⟩
   ·have hb4p := dec_f hb4
    refine sz rfl rfl hb4 (sz rfl rfl hb4 (sy rfl rfl hb2 (yl_pick_f rfl rfl hb4 rfl (sd rfl (yl_pick_f rfl rfl hb2 rfl (sd rfl (yl_assign rfl rfl (dn (CW.ret (rr rfl (.cons rfl .nil) ?_))))))))))
    have hM6 : (i_isLowerOrDigit p_b) = (false) := by simp only [i_isLowerOrDigit, hb1, hb2, hb4, cL]
    rw [hM6]
    exact ⟨rfl, (Ex.refl w)⟩
 ·have hb1p := dec_f hb1
  refine sz rfl rfl hb1 (sz rfl rfl hb1 (sd rfl (yl_pick_f rfl rfl hb1 rfl (sd rfl (yl_move rfl rfl (sy rfl rfl rfl (yl_move rfl rfl (sy rfl rfl rfl (yl_geq rfl rfl rfl (sy rfl rfl rfl (yl_move rfl rfl (bcase (decide (48 ≤ p_b)) (fun hb7 => ?_) (fun hb7 => ?_)))))))))))))
  ·have hb7p := dec_t hb7
   refine sy rfl rfl hb7 (yl_move rfl rfl (sy rfl rfl hb7 (yl_leq rfl rfl rfl (sy rfl rfl rfl (yl_pick_t rfl rfl hb7 rfl (sd rfl (yl_pick_f rfl rfl rfl rfl (sd rfl (yl_assign rfl rfl (dn (CW.ret (rr rfl (.cons rfl .nil) ?_))))))))))))
   have hM8 : (i_isLowerOrDigit p_b) = (decide (p_b ≤ 57)) := by simp only [i_isLowerOrDigit, hb1, hb7, cL]
   rw [hM8]
   exact ⟨rfl, (Ex.refl w)⟩
  ·have hb7p := dec_f hb7
   refine sz rfl rfl hb7 (sz rfl rfl hb7 (sy rfl rfl rfl (yl_pick_f rfl rfl hb7 rfl (sd rfl (yl_pick_f rfl rfl rfl rfl (sd rfl (yl_assign rfl rfl (dn (CW.ret (rr rfl (.cons rfl .nil) ?_))))))))))
   have hM9 : (i_isLowerOrDigit p_b) = (false) := by simp only [i_isLowerOrDigit, hb1, hb7, cL]
   rw [hM9]
   exact ⟨rfl, (Ex.refl w)⟩
theorem c_g_internal_stringslite_IndexByte {w : World} (p_s : Str) (p_c : Int) (o1 : okS p_s) : Cal Tryz.prog 118 #[.string (bs (p_s)), .int .u8 (p_c)] w fun v w' => v = .int .i64 ((g_internal_stringslite_IndexByte p_s p_c)) ∧ Ex w w' := by
 refine Cal.of func118 rfl ntmps118 rfl (CW.seq (CW.region (sd rfl (yl_assign rfl rfl (dn (CW.seq (CW.region (sd rfl (yl_move rfl rfl ?_)))))))))
 refine sd rfl (yl_move rfl rfl (sd rfl (yl_idxB (s := p_s) (c := p_c) Tryz.ex127 rfl (oc rfl (oc rfl oz)) (sd rfl (yl_assign rfl rfl (dn (CW.ret (rr rfl (.cons rfl .nil) ?_))))))))
 have hM3 : (g_internal_stringslite_IndexByte p_s p_c) = (idxB p_s p_c) := by simp only [g_internal_stringslite_IndexByte, cL]
 rw [hM3]
 exact ⟨rfl, (Ex.refl w)⟩
theorem c_g_strings_IndexByte {w : World} (p_s : Str) (p_c : Int) (o1 : okS p_s) : Cal Tryz.prog 111 #[.string (bs (p_s)), .int .u8 (p_c)] w fun v w' => v = .int .i64 ((g_strings_IndexByte p_s p_c)) ∧ Ex w w' := by
 refine Cal.of func111 rfl ntmps111 rfl (CW.seq (CW.region (sd rfl (yl_assign rfl rfl (dn (CW.seq (CW.region (sd rfl (yl_move rfl rfl ?_)))))))))
 refine sd rfl (yl_move rfl rfl (sd rfl (yl_call en118 rfl (oc rfl (oc rfl oz)) (Cal.mono (c_g_internal_stringslite_IndexByte p_s p_c o1) ?_))))
 rintro v4 w3 ⟨rfl, hE5⟩
 refine sd rfl (yl_assign rfl rfl (dn (CW.ret (rr rfl (.cons rfl .nil) ?_))))
 have hM6 : (g_strings_IndexByte p_s p_c) = ((g_internal_stringslite_IndexByte p_s p_c)) := by simp only [g_strings_IndexByte, cL]
 rw [hM6]
 exact ⟨rfl, (Ex.trans (Ex.refl w) hE5)⟩
theorem c_i_hasBytes {w : World} (p_s : Str) (p_others : Str) (o1 : okS p_s) (o2 : okS p_others) : Cal Tryz.prog 103 #[.string (bs (p_s)), .string (bs (p_others))] w fun v w' => v = .bool ((i_hasBytes p_s p_others)) ∧ Ex w w' := by
 have hol3 : p_s.length ≤ 1073741824 := o1
 have hol4 : p_others.length ≤ 1073741824 := o2
 refine Cal.of func103 rfl ntmps103 rfl (CW.seq (CW.region (sd rfl (yl_assign rfl rfl (dn (CW.seq (CW.seq (CW.region ?_))))))))
 refine sd rfl (yl_move rfl rfl (sd rfl (yl_slen un9 (a := p_s) rfl rfl (sd rfl (yl_move rfl rfl (dn (CW.block (CW.loop (fun m6 L7 w8 => ∃ (k5 : Nat), m6 = p_s.length - k5 ∧ k5 ≤ p_s.length ∧ w.heap.size ≤ w8.heap.size ∧ lkp L7 0 = some (.string (bs (p_s))) ∧ lkp L7 1 = some (.string (bs (p_others))) ∧ lkp L7 7 = some (.int .i64 ((p_s.length : Int))) ∧ lkp L7 8 = some (.int .i64 ((k5 : Int))) ∧ Ex w w8 ∧ loopM (B_i_hasBytes_0 p_s p_others) (p_s.length - k5) k5 () = loopM (B_i_hasBytes_0 p_s p_others) (p_s.length - 0) 0 ()) (p_s.length - 0) ?_ ?_))))))))
 ·exact ⟨0, rfl, (by omega), Nat.le_refl _, rfl, rfl, rfl, rfl, (Ex.refl w), rfl⟩
 ·rintro m9 L10 w11 ⟨k5, rfl, hk12, hsz14, hl15, hl16, hl17, hl18, hf19, hI13⟩
  refine CW.sub (Sub.cons hl15 (Sub.cons hl16 (Sub.cons hl17 (Sub.cons hl18 (Sub.nil _))))) ?_
  have hf19z := Ex.size hf19
  have hbg20 : p_s.length ≤ 1073741824 := o1
  rcases Nat.lt_or_ge k5 p_s.length with hlt21 | hlt21
  ·refine CW.seq (CW.region (sd rfl (yl_lss rfl rfl rfl (dn (CW.seq (CW.cond_t rfl (lt_t hlt21) (CW.skip (tn ?_))))))))
   refine CW.seq (CW.block (CW.seq (CW.region (sd rfl (yl_move rfl rfl (sd rfl (yl_assign rfl rfl (dn (CW.seq ?_)))))))))
   refine CW.region (sd rfl (yl_move rfl rfl (sd rfl (yl_move rfl rfl (sd rfl (yl_sindexN un9 (a := p_s) rfl rfl rfl (by first | omega | assumption | (simp only [wI] at *; omega)) (sd rfl (yl_call en110 rfl (oc rfl oz) (Cal.mono (c_i_isLowerOrDigit ((p_s.getD k5 0).toNat : Int)) ?_)))))))))
   rintro v23 w22 ⟨rfl, hE24⟩
   have hE24z := Ex.size hE24
   refine sd rfl (yl_not rfl rfl (sd rfl (yl_move rfl rfl (bcase (i_isLowerOrDigit ((p_s.getD k5 0).toNat : Int)) (fun hb25 => ?_) (fun hb25 => ?_)))))
   ·refine sz rfl rfl (not_t hb25) (sz rfl rfl (not_t hb25) (sz rfl rfl (not_t hb25) (sz rfl rfl (not_t hb25) (sz rfl rfl (not_t hb25) (sz rfl rfl (not_t hb25) (sd rfl (yl_pick_f rfl rfl (not_t hb25) rfl (dn ?_))))))))
    refine CW.cond_f rfl rfl (CW.skip (bn (tn (CW.region (sd rfl (yl_inc rfl rfl rfl (by omega) (sd rfl (yl_move rfl rfl (dn ?_)))))))))
    have hB26 : B_i_hasBytes_0 p_s p_others k5 () = .cont () := by simp only [B_i_hasBytes_0, hb25, cL]
    exact ⟨p_s.length - (k5 + 1), by omega, k5 + 1, rfl, hlt21, (by omega), rfl, rfl, rfl, rfl, (Ex.trans hf19 hE24), (loopM.cont hlt21 hB26).symm.trans hI13⟩
   ·refine sy rfl rfl (not_f hb25) (yl_move rfl rfl (sy rfl rfl (not_f hb25) (yl_move rfl rfl (sy rfl rfl (not_f hb25) (yl_move rfl rfl (sy rfl rfl (not_f hb25) (yl_sindexN un9 (a := p_s) rfl rfl rfl (by first | omega | assumption | (simp only [wI] at *; omega)) (sy rfl rfl (not_f hb25) (yl_call en111 rfl (oc rfl (oc rfl oz)) (Cal.mono (c_g_strings_IndexByte p_others ((p_s.getD k5 0).toNat : Int) o2) ?_))))))))))
    rintro v29 w28 ⟨rfl, hE30⟩
    have hE30z := Ex.size hE30
    refine sy rfl rfl (not_f hb25) (yl_lss rfl rfl rfl (sd rfl (yl_pick_t rfl rfl (not_f hb25) rfl (dn (bcase (decide ((g_strings_IndexByte p_others ((p_s.getD k5 0).toNat : Int)) < 0)) (fun hb31 => ?_) (fun hb31 => ?_))))))
    ·have hb31p := dec_t hb31
     refine CW.cond_t rfl hb31 (CW.seq (CW.region (sd rfl (yl_assign rfl rfl (dn (CW.ret (br (tr ?_))))))))
     refine tr ?_
     have hB33 : B_i_hasBytes_0 p_s p_others k5 () = .ret false := by simp only [B_i_hasBytes_0, hb25, hb31, cL]
     have hL32 : loopM (B_i_hasBytes_0 p_s p_others) (p_s.length - 0) 0 () = .ret false := hI13.symm.trans (loopM.ret hlt21 hB33)
     refine br (tr (rr rfl (.cons rfl .nil) ?_))
     have hM34 : (i_hasBytes p_s p_others) = (false) := by simp only [i_hasBytes, hb25, hb31, hL32, cL]
     rw [hM34]
     exact ⟨rfl, (Ex.trans (Ex.trans hf19 hE24) hE30)⟩
    ·have hb31p := dec_f hb31
     refine CW.cond_f rfl hb31 (CW.skip (bn (tn (CW.region (sd rfl (yl_inc rfl rfl rfl (by omega) (sd rfl (yl_move rfl rfl (dn ?_)))))))))
     have hB37 : B_i_hasBytes_0 p_s p_others k5 () = .cont () := by simp only [B_i_hasBytes_0, hb25, hb31, cL]
     exact ⟨p_s.length - (k5 + 1), by omega, k5 + 1, rfl, hlt21, (by omega), rfl, rfl, rfl, rfl, (Ex.trans (Ex.trans hf19 hE24) hE30), (loopM.cont hlt21 hB37).symm.trans hI13⟩
  ·refine CW.seq (CW.region (sd rfl (yl_lss rfl rfl rfl (dn (CW.seq (CW.cond_f rfl (lt_f hlt21) (CW.exit (tx ?_))))))))
   refine tx ?_
   have hL40 : loopM (B_i_hasBytes_0 p_s p_others) (p_s.length - 0) 0 () = .done () := hI13.symm.trans (loopM.stop hlt21)
   refine bx (tn (CW.seq (CW.region (sd rfl (yl_assign rfl rfl (dn (CW.ret (rr rfl (.cons rfl .nil) ?_))))))))
   have hM41 : (i_hasBytes p_s p_others) = (true) := by simp only [i_hasBytes, hL40, cL]
   rw [hM41]
   exact ⟨rfl, hf19⟩
theorem c_i_GoodKey {w : World} (p_s : Str) (o1 : okS p_s) : Cal Tryz.prog 96 #[.string (bs (p_s))] w fun v w' => v = .bool ((i_GoodKey p_s)) ∧ Ex w w' := by
 refine Cal.of func96 rfl ntmps96 rfl (CW.seq (CW.region (sd rfl (yl_assign rfl rfl (dn (CW.seq (CW.region (sd rfl (yl_move rfl rfl ?_)))))))))
 refine sd rfl (yl_slen un9 (a := p_s) rfl rfl (sd rfl (yl_call en76 rfl (oc rfl (oc rfl (oc rfl oz))) (Cal.mono (c_i_within (p_s.length : Int) 1 12) ?_))))
 rintro v4 w3 ⟨rfl, hE5⟩
 refine sd rfl (yl_move rfl rfl (bcase (i_within (p_s.length : Int) 1 12) (fun hb6 => ?_) (fun hb6 => ?_)))
 ·have hb6p := f_within hb6
  refine sy rfl rfl hb6 (yl_move rfl rfl (sy rfl rfl hb6 (yl_call en103 rfl (oc rfl (oc rfl oz)) (Cal.mono (c_i_hasBytes p_s ([46, 47] : Str) o1 (okS.lit rfl)) ?_))))
  rintro v8 w7 ⟨rfl, hE9⟩
  refine sd rfl (yl_pick_t rfl rfl hb6 rfl (sd rfl (yl_assign rfl rfl (dn (CW.ret (rr rfl (.cons rfl .nil) ?_))))))
  have hM10 : (i_GoodKey p_s) = ((i_hasBytes p_s ([46, 47] : Str))) := by simp only [i_GoodKey, hb6, cL]
  rw [hM10]
  exact ⟨rfl, (Ex.trans (Ex.trans (Ex.refl w) hE5) hE9)⟩
 ·refine sz rfl rfl hb6 (sz rfl rfl hb6 (sd rfl (yl_pick_f rfl rfl hb6 rfl (sd rfl (yl_assign rfl rfl (dn (CW.ret (rr rfl (.cons rfl .nil) ?_))))))))
  have hM13 : (i_GoodKey p_s) = (false) := by simp only [i_GoodKey, hb6, cL]
  rw [hM13]
  exact ⟨rfl, (Ex.trans (Ex.refl w) hE5)⟩
theorem c_i_areRising {A1 : Option Addr} {c1 : Nat} {w : World} (p_keys : List Str) (h1 : RdS w (Iv 0 w.heap.size) (RF e_Str) 1 A1 p_keys.length c1 p_keys) (o2 : (okL okS) p_keys) : Cal Tryz.prog 80 #[.slice A1 p_keys.length c1] w fun v w' => v = .bool ((i_areRising p_keys)) ∧ Ex w w' := by
 have hol3 := o2.1
 refine Cal.of func80 rfl ntmps80 rfl (CW.seq (CW.region (sd rfl (yl_assign rfl rfl (dn (CW.seq (CW.seq (CW.region ?_))))))))
 refine sd rfl (yl_move rfl rfl (sd rfl (yl_len un22 rfl rfl (sd rfl (yl_move rfl rfl (dn (CW.block (CW.loop (fun m5 L6 w7 => ∃ (k4 : Nat), m5 = p_keys.length - k4 ∧ k4 ≤ p_keys.length ∧ w.heap.size ≤ w7.heap.size ∧ lkp L6 0 = some (.slice A1 p_keys.length c1) ∧ lkp L6 5 = some (.slice A1 p_keys.length c1) ∧ lkp L6 6 = some (.int .i64 ((p_keys.length : Int))) ∧ lkp L6 7 = some (.int .i64 ((k4 : Int))) ∧ RdS w7 (Iv 0 w.heap.size) (RF e_Str) 1 A1 p_keys.length c1 p_keys ∧ Ex w w7 ∧ loopM (B_i_areRising_0 p_keys) (p_keys.length - k4) k4 () = loopM (B_i_areRising_0 p_keys) (p_keys.length - 0) 0 ()) (p_keys.length - 0) ?_ ?_))))))))
 ·exact ⟨0, rfl, (by omega), Nat.le_refl _, rfl, rfl, rfl, rfl, h1, (Ex.refl w), rfl⟩
 ·rintro m8 L9 w10 ⟨k4, rfl, hk11, hsz13, hl14, hl15, hl16, hl17, hf18, hf19, hI12⟩
  refine CW.sub (Sub.cons hl14 (Sub.cons hl15 (Sub.cons hl16 (Sub.cons hl17 (Sub.nil _))))) ?_
  have hf19z := Ex.size hf19
  have hbg20 := RdS.big hf18
  rcases Nat.lt_or_ge k4 p_keys.length with hlt21 | hlt21
  ·refine CW.seq (CW.region (sd rfl (yl_lss rfl rfl rfl (dn (CW.seq (CW.cond_t rfl (lt_t hlt21) (CW.skip (tn ?_))))))))
   refine CW.seq (CW.block (CW.seq (CW.region (sd rfl (yl_move rfl rfl ?_)))))
   obtain ⟨eb22, eo22, _, eA22, _, ebl22, _, eR22, eC22⟩ := RdS.aD hf18 d_Str (i := k4)
   obtain rfl := eR22
   have eC22 : Cells w10 eb22 (eo22 + k4 * 1) [.string (bs ((p_keys.getD k4 d_Str)))] := eC22
   refine sd rfl (yl_ixN un22 ty9 rfl rfl rfl eA22 (sd rfl (yl_load1 ty9 rfl rfl (eC22 0 _ rfl) (sd rfl (yl_assign rfl rfl (sd rfl (yl_assign rfl rfl (dn (CW.seq (CW.region (sd rfl (yl_move rfl rfl ?_))))))))))))
   refine sd rfl (yl_call en96 rfl (oc rfl oz) (Cal.mono (c_i_GoodKey (p_keys.getD k4 d_Str) (okL.getD o2 ok_d_Str _)) ?_))
   rintro v24 w23 ⟨rfl, hE25⟩
   have hE25z := Ex.size hE25
   refine sd rfl (yl_not rfl rfl (sd rfl (yl_move rfl rfl (bcase (i_GoodKey (p_keys.getD k4 d_Str)) (fun hb26 => ?_) (fun hb26 => ?_)))))
   ·refine sy rfl rfl (not_t hb26) (yl_move rfl rfl (sy rfl rfl (not_t hb26) (yl_gtr rfl rfl rfl (sy rfl rfl (not_t hb26) (yl_move rfl rfl (bcase (decide (0 < (k4 : Int))) (fun hb27 => ?_) (fun hb27 => ?_)))))))
    ·have hb27p := dec_t hb27
     refine sy rfl rfl hb27 (yl_move rfl rfl (sy rfl rfl hb27 (yl_move rfl rfl (sy rfl rfl hb27 (yl_move rfl rfl (sy rfl rfl hb27 (yl_sub rfl rfl rfl ?_)))))))
     have q28 := RdS.ex good_Str hf18 hE25
     obtain ⟨eb29, eo29, _, eA29, _, ebl29, _, eR29, eC29⟩ := RdS.atD q28 d_Str (i := (IntKind.wrap .i64 ((k4 : Int) - 1)).toNat) (by first | omega | assumption | (simp only [wI] at *; omega))
     obtain rfl := eR29
     have eC29 : Cells w23 eb29 (eo29 + ((IntKind.wrap .i64 ((k4 : Int) - 1)).toNat) * 1) [.string (bs ((p_keys.getD ((IntKind.wrap .i64 ((k4 : Int) - 1)).toNat) d_Str)))] := eC29
     refine sy rfl rfl hb27 (yl_indexAddr un22 ty9 rfl rfl rfl eA29 (by first | omega | assumption | (simp only [wI] at *; omega)) (by first | omega | assumption | (simp only [wI] at *; omega)) (sy rfl rfl hb27 (yl_load1 ty9 rfl rfl (eC29 0 _ rfl) (sy rfl rfl hb27 (yl_sleq (a := (p_keys.getD k4 d_Str)) (b := (p_keys.getD ((IntKind.wrap .i64 ((k4 : Int) - 1)).toNat) d_Str)) rfl rfl rfl (sy rfl rfl (not_t hb26) (yl_pick_t rfl rfl hb27 rfl (sd rfl (yl_pick_f rfl rfl (not_t hb26) rfl (dn (bcase (sLe (p_keys.getD k4 d_Str) (p_keys.getD ((IntKind.wrap .i64 ((k4 : Int) - 1)).toNat) d_Str)) (fun hb30 => ?_) (fun hb30 => ?_))))))))))))
     ·refine CW.cond_t rfl hb30 (CW.seq (CW.region (sd rfl (yl_assign rfl rfl (dn (CW.ret (br (tr ?_))))))))
      refine tr ?_
      have hB32 : B_i_areRising_0 p_keys k4 () = .ret false := by simp only [B_i_areRising_0, hb26, hb27, hb30, cL]
      have hL31 : loopM (B_i_areRising_0 p_keys) (p_keys.length - 0) 0 () = .ret false := hI12.symm.trans (loopM.ret hlt21 hB32)
      refine br (tr (rr rfl (.cons rfl .nil) ?_))
      have hM33 : (i_areRising p_keys) = (false) := by simp only [i_areRising, hb26, hb27, hb30, hL31, cL]
      rw [hM33]
      exact ⟨rfl, (Ex.trans hf19 hE25)⟩
     ·refine CW.cond_f rfl hb30 (CW.skip (bn (tn (CW.region (sd rfl (yl_inc rfl rfl rfl (by omega) (sd rfl (yl_move rfl rfl (dn ?_)))))))))
      have hB35 : B_i_areRising_0 p_keys k4 () = .cont () := by simp only [B_i_areRising_0, hb26, hb27, hb30, cL]
      exact ⟨p_keys.length - (k4 + 1), by omega, k4 + 1, rfl, hlt21, (by omega), rfl, rfl, rfl, rfl, q28, (Ex.trans hf19 hE25), (loopM.cont hlt21 hB35).symm.trans hI12⟩
    ·have hb27p := dec_f hb27
     refine sz rfl rfl hb27 (sz rfl rfl hb27 (sz rfl rfl hb27 (sz rfl rfl hb27 (sz rfl rfl hb27 (sz rfl rfl hb27 (sz rfl rfl hb27 (sy rfl rfl (not_t hb26) (yl_pick_f rfl rfl hb27 rfl (sd rfl (yl_pick_f rfl rfl (not_t hb26) rfl ?_))))))))))
     refine dn (CW.cond_f rfl rfl (CW.skip (bn (tn (CW.region (sd rfl (yl_inc rfl rfl rfl (by omega) (sd rfl (yl_move rfl rfl ?_)))))))))
     refine dn ?_
     have hB37 : B_i_areRising_0 p_keys k4 () = .cont () := by simp only [B_i_areRising_0, hb26, hb27, cL]
     exact ⟨p_keys.length - (k4 + 1), by omega, k4 + 1, rfl, hlt21, (by omega), rfl, rfl, rfl, rfl, (RdS.ex good_Str hf18 hE25), (Ex.trans hf19 hE25), (loopM.cont hlt21 hB37).symm.trans hI12⟩
   ·refine sz rfl rfl (not_f hb26) (sz rfl rfl (not_f hb26) (sz rfl rfl (not_f hb26) (sq rfl rfl (sq rfl rfl (sq rfl rfl (sq rfl rfl (sq rfl rfl (sq rfl rfl ?_))))))))
    refine sq rfl rfl (sz rfl rfl (not_f hb26) (sd rfl (yl_pick_t rfl rfl (not_f hb26) rfl (dn (CW.cond_t rfl rfl (CW.seq (CW.region (sd rfl (yl_assign rfl rfl ?_)))))))))
    refine dn (CW.ret (br (tr (tr ?_))))
    have hB41 : B_i_areRising_0 p_keys k4 () = .ret false := by simp only [B_i_areRising_0, hb26, cL]
    have hL40 : loopM (B_i_areRising_0 p_keys) (p_keys.length - 0) 0 () = .ret false := hI12.symm.trans (loopM.ret hlt21 hB41)
    refine br (tr (rr rfl (.cons rfl .nil) ?_))
    have hM42 : (i_areRising p_keys) = (false) := by simp only [i_areRising, hb26, hL40, cL]
    rw [hM42]
    exact ⟨rfl, (Ex.trans hf19 hE25)⟩
  ·refine CW.seq (CW.region (sd rfl (yl_lss rfl rfl rfl (dn (CW.seq (CW.cond_f rfl (lt_f hlt21) (CW.exit (tx ?_))))))))
   refine tx ?_
   have hL44 : loopM (B_i_areRising_0 p_keys) (p_keys.length - 0) 0 () = .done () := hI12.symm.trans (loopM.stop hlt21)
   refine bx (tn (CW.seq (CW.region (sd rfl (yl_assign rfl rfl (dn (CW.ret (rr rfl (.cons rfl .nil) ?_))))))))
   have hM45 : (i_areRising p_keys) = (true) := by simp only [i_areRising, hL44, cL]
   rw [hM45]
   exact ⟨rfl, hf19⟩
theorem c_i_writeKeys {A1 : Option Addr} {c1 : Nat} {w : World} (p_l : List DWrite) (h1 : RdS w (Iv 0 w.heap.size) (RF e_Write) 3 A1 p_l.length c1 p_l) (o2 : (okL ok_Write) p_l) : Cal Tryz.prog 81 #[.slice A1 p_l.length c1] w fun v w' => ∃ A_1 c_1 lo_1 hi_1, v = .slice A_1 ((i_writeKeys p_l).length) c_1 ∧ OwnL w' lo_1 hi_1 9 1 (RF e_Str) A_1 ((i_writeKeys p_l).length) c_1 (i_writeKeys p_l) ∧ (okL okS) (i_writeKeys p_l) ∧ (w.heap.size ≤ lo_1 ∧ lo_1 ≤ hi_1 ∧ hi_1 ≤ w'.heap.size) ∧ Ex w w' := by
 have hol3 := o2.1
 refine Cal.of func81 rfl ntmps81 rfl (CW.seq (CW.region (sd rfl (yl_assign rfl rfl (dn (CW.seq (CW.region (sd rfl (yl_buildSlice (cs := []) un22 ty9 (by decide) rfl opvs_nil (by kernel_rfl) ?_)))))))))
 intro b4 w5 hs6 hz7 hB8 hE9
 have hO10 : OwnL w5 b4 (b4 + 1) 9 1 (RF e_Str) (some ⟨b4, 0, none⟩) 0 0 ([] : List Str) := OwnL.of_box (S := fun _ => False) hB8 (Nat.le_refl _) (Nat.lt_succ_self _) EncL.nil (Nat.le_of_ble_eq_true rfl) (fun h => h) (fun _ h => False.elim h)
 refine sd rfl (yl_assign rfl rfl (dn (CW.seq (CW.seq (CW.region (sd rfl (yl_move rfl rfl (sd rfl (yl_len un35 rfl rfl (sd rfl (yl_move rfl rfl ?_)))))))))))
 refine dn (CW.block (CW.loop (fun m65 L66 w67 => ∃ (k11 : Nat) (x61 : List Str) (A62 : Option Addr) (c63 : Nat) (u64 : Nat), m65 = p_l.length - k11 ∧ k11 ≤ p_l.length ∧ w5.heap.size ≤ w67.heap.size ∧ lkp L66 3 = some (.slice A62 x61.length c63) ∧ lkp L66 7 = some (.slice A1 p_l.length c1) ∧ lkp L66 8 = some (.int .i64 ((p_l.length : Int))) ∧ lkp L66 9 = some (.int .i64 ((k11 : Int))) ∧ OwnL w67 b4 u64 9 1 (RF e_Str) A62 x61.length c63 x61 ∧ RdS w67 (Iv 0 w.heap.size) (RF e_Write) 3 A1 p_l.length c1 p_l ∧ Ex w w67 ∧ (b4 ≤ u64 ∧ u64 ≤ w67.heap.size) ∧ x61.length ≤ 0 + 1 * (k11 - 0) ∧ (∀ y ∈ x61, okS y) ∧ loopM (B_i_writeKeys_0 p_l) (p_l.length - k11) k11 (x61) = loopM (B_i_writeKeys_0 p_l) (p_l.length - 0) 0 (([] : List Str))) (p_l.length - 0) ?_ ?_))
 ·exact ⟨0, ([] : List Str), (some ⟨b4, 0, none⟩), 0, (b4 + 1), rfl, (by omega), Nat.le_refl _, rfl, rfl, rfl, rfl, hO10, (RdS.ex good_Write h1 hE9), (Ex.trans (Ex.refl w) hE9), (by omega), (by first | (simp; done) | (first | omega | (simp only [List.length_append, List.length_cons, List.length_nil, List.length_set, toS_length]; omega))), okE.nil, rfl⟩
 ·rintro m70 L71 w72 ⟨k11, x61, A62, c63, u64, rfl, hk73, hsz75, hl76, hl77, hl78, hl79, hf80, hf81, hf82, hu83, hln84, hok85, hI74⟩
  refine CW.sub (Sub.cons hl76 (Sub.cons hl77 (Sub.cons hl78 (Sub.cons hl79 (Sub.nil _))))) ?_
  have hf82z := Ex.size hf82
  have hbg86 := RdS.big hf81
  rcases Nat.lt_or_ge k11 p_l.length with hlt87 | hlt87
  ·refine CW.seq (CW.region (sd rfl (yl_lss rfl rfl rfl (dn (CW.seq (CW.cond_t rfl (lt_t hlt87) (CW.skip (tn ?_))))))))
   refine CW.seq (CW.block (CW.seq (CW.region ?_)))
   obtain ⟨eb88, eo88, _, eA88, _, ebl88, _, eR88, eC88⟩ := RdS.aD hf81 d_Write (i := k11)
   obtain rfl := eR88
   have eC88 : Cells w72 eb88 (eo88 + k11 * 3) [.string (bs ((p_l.getD k11 d_Write).Key)), .string (bs ((p_l.getD k11 d_Write).Val)), .bool ((p_l.getD k11 d_Write).Gone)] := eC88
   refine sd rfl (yl_ixN un35 ty53 rfl rfl rfl eA88 (sd rfl (yl_loadN ty53 rfl rfl eC88 rfl (sd rfl (yl_alloc ty53 (cs := [.string (bs (([] : Str))), .string (bs (([] : Str))), .bool (false)]) rfl rfl ?_)))))
   intro b89 w90 hs91 hz92 hB93 hE94
   refine SeqR.u rfl rfl (yl_store (vs := [.string (bs ((p_l.getD k11 d_Write).Key)), .string (bs ((p_l.getD k11 d_Write).Val)), .bool ((p_l.getD k11 d_Write).Gone)]) ty53 rfl rfl rfl rfl rfl rfl hB93 (Nat.le_of_ble_eq_true rfl) ?_)
   intro w95 hB96 hO97
   have hB96 : Box w95 b89 53 [.string (bs ((p_l.getD k11 d_Write).Key)), .string (bs ((p_l.getD k11 d_Write).Val)), .bool ((p_l.getD k11 d_Write).Gone)] := hB96
   have hO97z := hO97.size
   refine dn (CW.region (sd rfl (yl_move rfl rfl (sd rfl (yl_fieldAddr fd53_0 rfl rfl (sd rfl (yl_load1 ty9 rfl rfl ((hB96.cell 0).trans rfl) (sd rfl (yl_buildSlice (cs := [.string (bs ((p_l.getD k11 d_Write).Key))]) un22 ty9 (by decide) rfl (oc rfl oz) (by kernel_rfl) ?_)))))))))
   intro b98 w99 hs100 hz101 hB102 hE103
   have hO104 : OwnL w99 b98 (b98 + 1) 9 1 (RF e_Str) (some ⟨b98, 0, none⟩) 1 1 ([(p_l.getD k11 d_Write).Key] : List Str) := OwnL.of_box (S := fun _ => False) hB102 (Nat.le_refl _) (Nat.lt_succ_self _) (EncL.cons (c := [.string (bs ((p_l.getD k11 d_Write).Key))]) rfl rfl EncL.nil) (Nat.le_of_ble_eq_true rfl) (fun h => h) (fun _ h => False.elim h)
   refine sd rfl (yl_appendL (S := (fun _ => False)) (lo := b4) (hi := u64) (xs := x61) (ys := ([(p_l.getD k11 d_Write).Key] : List Str)) good_Str un22 ty9 rfl (Nat.le_of_ble_eq_true rfl) rfl rfl rfl (OwnL.ex good_Str (OwnL.only good_Str (OwnL.ex good_Str hf80 hE94) hO97 (by omega)) hE103) (EncL.cons (c := [.string (bs ((p_l.getD k11 d_Write).Key))]) rfl rfl EncL.nil) (Or.inr ⟨_, _, rfl, rfl, hB102.cells (o := 0) (n := 1) rfl⟩) rfl (by first | omega | (simp only [List.length_append, List.length_cons, List.length_nil, List.length_take, List.length_drop, List.length_replicate, List.length_set, toS_length]; omega)) (by first | omega | (simp only [List.length_append, List.length_cons, List.length_nil, List.length_take, List.length_drop, List.length_replicate, List.length_set, toS_length]; omega)) (by omega) (by omega) (fun _ h _ => False.elim h) (by omega) ?_)
   intro A108 c109 w110 row111 hO112 hG113 hrg114
   have hG113z := hG113.size
   refine sd rfl (yl_assign rfl rfl (SeqR.done (bn (tn (CW.region (sd rfl (yl_inc rfl rfl rfl (by omega) (sd rfl (yl_move rfl rfl (dn ?_))))))))))
   have hB115 : B_i_writeKeys_0 p_l k11 (x61) = .cont ((x61 ++ ([(p_l.getD k11 d_Write).Key] : List Str))) := by simp only [B_i_writeKeys_0, cL]
   exact ⟨p_l.length - (k11 + 1), by omega, k11 + 1, (x61 ++ ([(p_l.getD k11 d_Write).Key] : List Str)), A108, c109, w110.heap.size, rfl, hlt87, (by omega), rfl, rfl, rfl, rfl, hO112, (RdS.grown good_Write (RdS.ex good_Write (RdS.only good_Write (RdS.ex good_Write hf81 hE94) hO97 (by simp only [Iv]; omega)) hE103) hG113 (fun k hk => by have := hrg114 k hk; simp only [Iv]; omega)), (Below.grown (Ex.trans (Below.only (Ex.trans hf82 hE94) hO97 (by omega)) hE103) hG113 (by omega) (fun k hk => by have := hrg114 k hk; omega)), (by omega), (by first | omega | (simp only [List.length_append, List.length_cons, List.length_nil, List.length_set, toS_length]; omega)), (okE.append hok85 ((okL.mk (Nat.le_of_ble_eq_true rfl) (okE.cons (okL.getD o2 ok_d_Write _).1 okE.nil))).2), (loopM.cont hlt87 hB115).symm.trans hI74⟩
  ·refine CW.seq (CW.region (sd rfl (yl_lss rfl rfl rfl (dn (CW.seq (CW.cond_f rfl (lt_f hlt87) (CW.exit (tx ?_))))))))
   refine tx ?_
   have hL124 : loopM (B_i_writeKeys_0 p_l) (p_l.length - 0) 0 (([] : List Str)) = .done (x61) := hI74.symm.trans (loopM.stop hlt87)
   refine bx (tn (CW.seq (CW.region (sd rfl (yl_move rfl rfl (sd rfl (yl_assign rfl rfl (dn (CW.ret ?_)))))))))
   refine rr rfl (.cons rfl .nil) ?_
   have hM125 : (i_writeKeys p_l) = (x61) := by simp only [i_writeKeys, hL124, cL]
   rw [hM125]
   exact ⟨A62, c63, b4, u64, rfl, hf80, (okL.mk (xs := x61) (by first | omega | (simp only [List.length_append, List.length_cons, List.length_nil, List.length_take, List.length_drop, List.length_replicate, List.length_set, toS_length]; omega)) hok85), (by omega), hf82⟩
theorem c_i_GoodVal {w : World} (p_s : Str) (o1 : okS p_s) : Cal Tryz.prog 97 #[.string (bs (p_s))] w fun v w' => v = .bool ((i_GoodVal p_s)) ∧ Ex w w' := by
 refine Cal.of func97 rfl ntmps97 rfl (CW.seq (CW.region (sd rfl (yl_assign rfl rfl (dn (CW.seq (CW.region (sd rfl (yl_move rfl rfl ?_)))))))))
 refine sd rfl (yl_slen un9 (a := p_s) rfl rfl (sd rfl (yl_leq rfl rfl rfl (sd rfl (yl_move rfl rfl (bcase (decide ((p_s.length : Int) ≤ 24)) (fun hb3 => ?_) (fun hb3 => ?_)))))))
 ·have hb3p := dec_t hb3
  refine sy rfl rfl hb3 (yl_move rfl rfl (sy rfl rfl hb3 (yl_call en103 rfl (oc rfl (oc rfl oz)) (Cal.mono (c_i_hasBytes p_s ([46, 45, 44, 95] : Str) o1 (okS.lit rfl)) ?_))))
  rintro v5 w4 ⟨rfl, hE6⟩
  refine sd rfl (yl_pick_t rfl rfl hb3 rfl (sd rfl (yl_assign rfl rfl (dn (CW.ret (rr rfl (.cons rfl .nil) ?_))))))
  have hM7 : (i_GoodVal p_s) = ((i_hasBytes p_s ([46, 45, 44, 95] : Str))) := by simp only [i_GoodVal, hb3, cL]
  rw [hM7]
  exact ⟨rfl, (Ex.trans (Ex.refl w) hE6)⟩
 ·have hb3p := dec_f hb3
  refine sz rfl rfl hb3 (sz rfl rfl hb3 (sd rfl (yl_pick_f rfl rfl hb3 rfl (sd rfl (yl_assign rfl rfl (dn (CW.ret (rr rfl (.cons rfl .nil) ?_))))))))
  have hM9 : (i_GoodVal p_s) = (false) := by simp only [i_GoodVal, hb3, cL]
  rw [hM9]
  exact ⟨rfl, (Ex.refl w)⟩
theorem c_i_isStored {w : World} (p_val : Str) (p_gone : Bool) (o1 : okS p_val) : Cal Tryz.prog 83 #[.string (bs (p_val)), .bool (p_gone)] w fun v w' => v = .bool ((i_isStored p_val p_gone)) ∧ Ex w w' := by
 refine Cal.of func83 rfl ntmps83 rfl (CW.seq (CW.region (sd rfl (yl_assign rfl rfl (dn (CW.seq (CW.region (sd rfl (yl_move rfl rfl ?_)))))))))
 refine sd rfl (yl_call en97 rfl (oc rfl oz) (Cal.mono (c_i_GoodVal p_val o1) ?_))
 rintro v4 w3 ⟨rfl, hE5⟩
 refine sd rfl (yl_move rfl rfl (bcase (i_GoodVal p_val) (fun hb6 => ?_) (fun hb6 => ?_)))
 ·refine sy rfl rfl hb6 (yl_move rfl rfl (sy rfl rfl hb6 (yl_move rfl rfl (bcase (p_gone) (fun hb7 => ?_) (fun hb7 => ?_)))))
  ·refine sy rfl rfl hb7 (yl_move rfl rfl (sy rfl rfl hb7 (yl_sneq (a := p_val) (b := ([] : Str)) rfl rfl rfl (sy rfl rfl hb6 (yl_pick_t rfl rfl hb7 rfl (sy rfl rfl hb6 (yl_not rfl rfl (sd rfl (yl_pick_t rfl rfl hb6 rfl (sd rfl (yl_assign rfl rfl (dn (CW.ret ?_)))))))))))))
   refine rr rfl (.cons rfl .nil) ?_
   have hM8 : (i_isStored p_val p_gone) = (!(!(p_val == ([] : Str)))) := by simp only [i_isStored, hb6, hb7, cL]
   rw [hM8]
   exact ⟨rfl, (Ex.trans (Ex.refl w) hE5)⟩
  ·refine sz rfl rfl hb7 (sz rfl rfl hb7 (sy rfl rfl hb6 (yl_pick_f rfl rfl hb7 rfl (sy rfl rfl hb6 (yl_not rfl rfl (sd rfl (yl_pick_t rfl rfl hb6 rfl (sd rfl (yl_assign rfl rfl (dn (CW.ret ?_)))))))))))
   refine rr rfl (.cons rfl .nil) ?_
   have hM10 : (i_isStored p_val p_gone) = (!false) := by simp only [i_isStored, hb6, hb7, cL]
   rw [hM10]
   exact ⟨rfl, (Ex.trans (Ex.refl w) hE5)⟩
 ·refine sz rfl rfl hb6 (sz rfl rfl hb6 (sq rfl rfl (sq rfl rfl (sz rfl rfl hb6 (sz rfl rfl hb6 (sd rfl (yl_pick_f rfl rfl hb6 rfl (sd rfl (yl_assign rfl rfl (SeqR.done ?_))))))))))
  refine tn (CW.ret (rr rfl (.cons rfl .nil) ?_))
  have hM12 : (i_isStored p_val p_gone) = (false) := by simp only [i_isStored, hb6, cL]
  rw [hM12]
  exact ⟨rfl, (Ex.trans (Ex.refl w) hE5)⟩
theorem c_i_GoodWrites_c1 {w : World} (p_w : DWrite) (o1 : ok_Write p_w) : Cal Tryz.prog 82 #[.agg #[.string (bs (p_w.Key)), .string (bs (p_w.Val)), .bool (p_w.Gone)]] w fun v w' => v = .bool ((i_GoodWrites_c1 p_w)) ∧ Ex w w' := by
 refine Cal.of func82 rfl ntmps82 rfl (CW.seq (CW.region (sd rfl (yl_box rfl rfl rfl ?_))))
 intro b4 w5 hs6 hz7 hB8 hE9
 refine sd rfl (yl_assign rfl rfl (dn (CW.seq (CW.region (sd rfl (yl_fieldAddr fd53_1 rfl rfl (sd rfl (yl_load1 ty9 rfl rfl ((hB8.cell 1).trans rfl) (sd rfl (yl_fieldAddr fd53_2 rfl rfl (sd rfl (yl_load1 ty4 rfl rfl ((hB8.cell 2).trans rfl) ?_))))))))))))
 refine sd rfl (yl_call en83 rfl (oc rfl (oc rfl oz)) (Cal.mono (c_i_isStored p_w.Val p_w.Gone o1.2) ?_))
 rintro v11 w10 ⟨rfl, hE12⟩
 refine sd rfl (yl_not rfl rfl (sd rfl (yl_assign rfl rfl (dn (CW.ret (rr rfl (.cons rfl .nil) ?_))))))
 have hM13 : (i_GoodWrites_c1 p_w) = (!(i_isStored p_w.Val p_w.Gone)) := by simp only [i_GoodWrites_c1, cL]
 rw [hM13]
 exact ⟨rfl, (Ex.trans (Ex.trans (Ex.refl w) hE9) hE12)⟩
theorem c_i_GoodWrites {A1 : Option Addr} {c1 : Nat} {w : World} (p_l : List DWrite) (h1 : RdS w (Iv 0 w.heap.size) (RF e_Write) 3 A1 p_l.length c1 p_l) (o2 : (okL ok_Write) p_l) : Cal Tryz.prog 61 #[.slice A1 p_l.length c1] w fun v w' => v = .bool ((i_GoodWrites p_l)) ∧ Ex w w' := by
 refine Cal.of func61 rfl ntmps61 rfl (CW.seq (CW.region (sd rfl (yl_assign rfl rfl (dn (CW.seq (CW.region (sd rfl (yl_move rfl rfl ?_)))))))))
 refine sd rfl (yl_len un35 rfl rfl (sd rfl (yl_leq rfl rfl rfl (sd rfl (yl_move rfl rfl (bcase (decide ((p_l.length : Int) ≤ 24)) (fun hb4 => ?_) (fun hb4 => ?_)))))))
 ·have hb4p := dec_t hb4
  refine sy rfl rfl hb4 (yl_move rfl rfl (sy rfl rfl hb4 (yl_call en81 rfl (oc rfl oz) (Cal.mono (c_i_writeKeys p_l (RdS.up h1 good_Write) o2) ?_))))
  rintro v8 w5 ⟨A6, c6, lo6, hi6, rfl, h6, ho7, hrn10, hE9⟩
  refine sy rfl rfl hb4 (yl_call en80 rfl (oc rfl oz) (Cal.mono (c_i_areRising (i_writeKeys p_l) (RdS.up (OwnL.rd good_Str h6) good_Str) ho7) ?_))
  rintro v13 w12 ⟨rfl, hE14⟩
  refine sd rfl (yl_pick_t rfl rfl hb4 rfl (sd rfl (yl_move rfl rfl (bcase (i_areRising (i_writeKeys p_l)) (fun hb15 => ?_) (fun hb15 => ?_)))))
  ·refine sy rfl rfl hb15 (yl_move rfl rfl (sy rfl rfl hb15 (yl_call en62 rfl (oc rfl (oc rfl oz)) (Cal.mono (c_g_slices_ContainsFunc_Write p_l (fun y0 => i_GoodWrites_c1 y0) (RdS.up (RdS.ex good_Write (RdS.ex good_Write h1 hE9) hE14) good_Write) en82 (fun _ y0 => fun hE hm0 ov0 => c_i_GoodWrites_c1 y0 ov0) o2) ?_))))
   rintro v19 w18 ⟨rfl, hE20⟩
   refine sy rfl rfl hb15 (yl_not rfl rfl (sd rfl (yl_pick_t rfl rfl hb15 rfl (sd rfl (yl_assign rfl rfl (dn (CW.ret (rr rfl (.cons rfl .nil) ?_))))))))
   have hM21 : (i_GoodWrites p_l) = (!(g_slices_ContainsFunc_Write p_l (fun y0 => i_GoodWrites_c1 y0))) := by simp only [i_GoodWrites, hb4, hb15, cL]
   rw [hM21]
   exact ⟨rfl, (Ex.trans (Ex.trans (Ex.trans (Ex.refl w) hE9) hE14) hE20)⟩
  ·refine sz rfl rfl hb15 (sz rfl rfl hb15 (sz rfl rfl hb15 (sd rfl (yl_pick_f rfl rfl hb15 rfl (sd rfl (yl_assign rfl rfl (dn (CW.ret (rr rfl (.cons rfl .nil) ?_)))))))))
   have hM25 : (i_GoodWrites p_l) = (false) := by simp only [i_GoodWrites, hb4, hb15, cL]
   rw [hM25]
   exact ⟨rfl, (Ex.trans (Ex.trans (Ex.refl w) hE9) hE14)⟩
 ·have hb4p := dec_f hb4
  refine sz rfl rfl hb4 (sz rfl rfl hb4 (sz rfl rfl hb4 (sd rfl (yl_pick_f rfl rfl hb4 rfl (sd rfl (yl_move rfl rfl (sz rfl rfl rfl (sz rfl rfl rfl (sz rfl rfl rfl (sd rfl (yl_pick_f rfl rfl rfl rfl ?_)))))))))))
  refine sd rfl (yl_assign rfl rfl (dn (CW.ret (rr rfl (.cons rfl .nil) ?_))))
  have hM28 : (i_GoodWrites p_l) = (false) := by simp only [i_GoodWrites, hb4, cL]
  rw [hM28]
  exact ⟨rfl, (Ex.refl w)⟩
theorem c_i_isRows_c1 {w : World} (p_w : DWrite) (o1 : ok_Write p_w) : Cal Tryz.prog 63 #[.agg #[.string (bs (p_w.Key)), .string (bs (p_w.Val)), .bool (p_w.Gone)]] w fun v w' => v = .bool ((i_isRows_c1 p_w)) ∧ Ex w w' := by
 refine Cal.of func63 rfl ntmps63 rfl (CW.seq (CW.region (sd rfl (yl_box rfl rfl rfl ?_))))
 intro b4 w5 hs6 hz7 hB8 hE9
 refine sd rfl (yl_assign rfl rfl (dn (CW.seq (CW.region (sd rfl (yl_fieldAddr fd53_2 rfl rfl (sd rfl (yl_load1 ty4 rfl rfl ((hB8.cell 2).trans rfl) (sd rfl (yl_assign rfl rfl (SeqR.done ?_)))))))))))
 refine tn (CW.ret (rr rfl (.cons rfl .nil) ?_))
 have hM10 : (i_isRows_c1 p_w) = (p_w.Gone) := by simp only [i_isRows_c1, cL]
 rw [hM10]
 exact ⟨rfl, (Ex.trans (Ex.refl w) hE9)⟩
theorem c_i_isRows {A1 : Option Addr} {c1 : Nat} {w : World} (p_rows : List DWrite) (h1 : RdS w (Iv 0 w.heap.size) (RF e_Write) 3 A1 p_rows.length c1 p_rows) (o2 : (okL ok_Write) p_rows) : Cal Tryz.prog 47 #[.slice A1 p_rows.length c1] w fun v w' => v = .bool ((i_isRows p_rows)) ∧ Ex w w' := by
 refine Cal.of func47 rfl ntmps47 rfl (CW.seq (CW.region (sd rfl (yl_assign rfl rfl (dn (CW.seq (CW.region (sd rfl (yl_move rfl rfl ?_)))))))))
 refine sd rfl (yl_call en61 rfl (oc rfl oz) (Cal.mono (c_i_GoodWrites p_rows (RdS.up h1 good_Write) o2) ?_))
 rintro v5 w4 ⟨rfl, hE6⟩
 refine sd rfl (yl_move rfl rfl (bcase (i_GoodWrites p_rows) (fun hb7 => ?_) (fun hb7 => ?_)))
 ·refine sy rfl rfl hb7 (yl_move rfl rfl (sy rfl rfl hb7 (yl_call en62 rfl (oc rfl (oc rfl oz)) (Cal.mono (c_g_slices_ContainsFunc_Write p_rows (fun y0 => i_isRows_c1 y0) (RdS.up (RdS.ex good_Write h1 hE6) good_Write) en63 (fun _ y0 => fun hE hm0 ov0 => c_i_isRows_c1 y0 ov0) o2) ?_))))
  rintro v10 w9 ⟨rfl, hE11⟩
  refine sy rfl rfl hb7 (yl_not rfl rfl (sd rfl (yl_pick_t rfl rfl hb7 rfl (sd rfl (yl_assign rfl rfl (dn (CW.ret (rr rfl (.cons rfl .nil) ?_))))))))
  have hM12 : (i_isRows p_rows) = (!(g_slices_ContainsFunc_Write p_rows (fun y0 => i_isRows_c1 y0))) := by simp only [i_isRows, hb7, cL]
  rw [hM12]
  exact ⟨rfl, (Ex.trans (Ex.trans (Ex.refl w) hE6) hE11)⟩
 ·refine sz rfl rfl hb7 (sz rfl rfl hb7 (sz rfl rfl hb7 (sd rfl (yl_pick_f rfl rfl hb7 rfl (sd rfl (yl_assign rfl rfl (dn (CW.ret (rr rfl (.cons rfl .nil) ?_)))))))))
  have hM15 : (i_isRows p_rows) = (false) := by simp only [i_isRows, hb7, cL]
  rw [hM15]
  exact ⟨rfl, (Ex.trans (Ex.refl w) hE6)⟩
theorem c_i_isIdxStore {A1 : Option Addr} {c1 : Nat} {A2 : Option Addr} {c2 : Nat} {A5 : Option Addr} {c5 : Nat} {w : World} (p_t : DTable) (p_name : Str) (p_store : List DWrite) (h1 : RdS w (Iv 0 w.heap.size) (RF e_Str) 1 A1 p_t.Cols.length c1 p_t.Cols) (h2 : RdS w (Iv 0 w.heap.size) (RF e_Idx) 3 A2 p_t.Idxs.length c2 p_t.Idxs) (h5 : RdS w (Iv 0 w.heap.size) (RF e_Write) 3 A5 p_store.length c5 p_store) (o3 : ok_Table p_t) (o4 : okS p_name) (o6 : (okL ok_Write) p_store) : Cal Tryz.prog 30 #[.agg #[.string (bs (p_t.Name)), .slice A1 p_t.Cols.length c1, .slice A2 p_t.Idxs.length c2], .string (bs (p_name)), .slice A5 p_store.length c5] w fun v w' => v = .bool ((i_isIdxStore p_t p_name p_store)) ∧ Ex w w' := by
 refine Cal.of func30 rfl ntmps30 rfl (CW.seq (CW.region (sd rfl (yl_box rfl rfl rfl ?_))))
 intro b12 w13 hs14 hz15 hB16 hE17
 refine sd rfl (yl_assign rfl rfl (dn (CW.seq (CW.region (sd rfl (yl_loadN ty33 rfl rfl (hB16.cells (n := 3) rfl) rfl (sd rfl (yl_move rfl rfl (sd rfl (yl_call en46 rfl (oc rfl (oc rfl oz)) (Cal.mono (c_i_hasIdx p_t p_name (RdS.up (RdS.ex good_Str h1 hE17) good_Str) (RdS.up (RdS.ex good_Idx h2 hE17) good_Idx) o3 o4) ?_)))))))))))
 rintro v21 w20 ⟨rfl, hE22⟩
 refine sd rfl (yl_move rfl rfl (bcase (i_hasIdx p_t p_name) (fun hb23 => ?_) (fun hb23 => ?_)))
 ·obtain ⟨hb23p0, hb23p1, hb23p2⟩ := f_i_hasIdx hb23
  refine sy rfl rfl hb23 (yl_move rfl rfl (sy rfl rfl hb23 (yl_call en47 rfl (oc rfl oz) (Cal.mono (c_i_isRows p_store (RdS.up (RdS.ex good_Write (RdS.ex good_Write h5 hE17) hE22) good_Write) o6) ?_))))
  rintro v27 w26 ⟨rfl, hE28⟩
  refine sd rfl (yl_pick_t rfl rfl hb23 rfl (sd rfl (yl_assign rfl rfl (dn (CW.ret (rr rfl (.cons rfl .nil) ?_))))))
  have hM29 : (i_isIdxStore p_t p_name p_store) = ((i_isRows p_store)) := by simp only [i_isIdxStore, hb23, cL]
  rw [hM29]
  exact ⟨rfl, (Ex.trans (Ex.trans (Ex.trans (Ex.refl w) hE17) hE22) hE28)⟩
 ·refine sz rfl rfl hb23 (sz rfl rfl hb23 (sd rfl (yl_pick_f rfl rfl hb23 rfl (sd rfl (yl_assign rfl rfl (dn (CW.ret (rr rfl (.cons rfl .nil) ?_))))))))
  have hM33 : (i_isIdxStore p_t p_name p_store) = (false) := by simp only [i_isIdxStore, hb23, cL]
  rw [hM33]
  exact ⟨rfl, (Ex.trans (Ex.trans (Ex.refl w) hE17) hE22)⟩
theorem c_g_slices_IndexFunc_string {A1 : Option Addr} {c1 : Nat} {g3 : Nat} {cp4 : List Value} {w : World} (p_s : List Str) (p_f : Str → Bool) (h1 : RdS w (Iv 0 w.heap.size) (RF e_Str) 1 A1 p_s.length c1 p_s) (hen5 : Go.X.Enters Tryz.prog g3) (hfn6 : ∀ (w1 : World) (y0 : Str), Ex w w1 → y0 ∈ p_s → okS y0 → Cal Tryz.prog g3 (([.string (bs (y0))] : List Value) ++ cp4).toArray w1 fun v w2 => v = .bool (p_f y0) ∧ Ex w1 w2) (o2 : (okL okS) p_s) : Cal Tryz.prog 85 #[.slice A1 p_s.length c1, .func (.func g3) #[] cp4.toArray] w fun v w' => v = .int .i64 ((g_slices_IndexFunc_string p_s p_f)) ∧ Ex w w' := by
 have hol7 := o2.1
 refine Cal.of func85 rfl ntmps85 rfl (CW.seq (CW.region (sd rfl (yl_assign rfl rfl (dn (CW.seq (CW.seq (CW.region ?_))))))))
 refine sd rfl (yl_move rfl rfl (sd rfl (yl_len un22 rfl rfl (sd rfl (yl_move rfl rfl (dn (CW.block (CW.loop (fun m9 L10 w11 => ∃ (k8 : Nat), m9 = p_s.length - k8 ∧ k8 ≤ p_s.length ∧ w.heap.size ≤ w11.heap.size ∧ lkp L10 0 = some (.slice A1 p_s.length c1) ∧ lkp L10 1 = some (.func (.func g3) #[] cp4.toArray) ∧ lkp L10 7 = some (.int .i64 ((p_s.length : Int))) ∧ lkp L10 8 = some (.int .i64 ((k8 : Int))) ∧ RdS w11 (Iv 0 w.heap.size) (RF e_Str) 1 A1 p_s.length c1 p_s ∧ Ex w w11 ∧ loopM (B_g_slices_IndexFunc_string_0 p_s p_f) (p_s.length - k8) k8 () = loopM (B_g_slices_IndexFunc_string_0 p_s p_f) (p_s.length - 0) 0 ()) (p_s.length - 0) ?_ ?_))))))))
 ·exact ⟨0, rfl, (by omega), Nat.le_refl _, rfl, rfl, rfl, rfl, h1, (Ex.refl w), rfl⟩
 ·rintro m12 L13 w14 ⟨k8, rfl, hk15, hsz17, hl18, hl19, hl20, hl21, hf22, hf23, hI16⟩
  refine CW.sub (Sub.cons hl18 (Sub.cons hl19 (Sub.cons hl20 (Sub.cons hl21 (Sub.nil _))))) ?_
  have hf23z := Ex.size hf23
  have hbg24 := RdS.big hf22
  rcases Nat.lt_or_ge k8 p_s.length with hlt25 | hlt25
  ·refine CW.seq (CW.region (sd rfl (yl_lss rfl rfl rfl (dn (CW.seq (CW.cond_t rfl (lt_t hlt25) (CW.skip (tn ?_))))))))
   refine CW.seq (CW.block (CW.seq (CW.region (sd rfl (yl_move rfl rfl (sd rfl (yl_assign rfl rfl (dn (CW.seq ?_)))))))))
   refine CW.region (sd rfl (yl_move rfl rfl (sd rfl (yl_move rfl rfl (sd rfl (yl_move rfl rfl ?_))))))
   obtain ⟨eb26, eo26, _, eA26, _, ebl26, _, eR26, eC26⟩ := RdS.aD hf22 d_Str (i := k8)
   obtain rfl := eR26
   have eC26 : Cells w14 eb26 (eo26 + k8 * 1) [.string (bs ((p_s.getD k8 d_Str)))] := eC26
   refine sd rfl (yl_ixN un22 ty9 rfl rfl rfl eA26 (sd rfl (yl_load1 ty9 rfl rfl (eC26 0 _ rfl) (sd rfl (yl_callv hen5 rfl rfl (oc rfl oz) (Cal.mono (hfn6 w14 (p_s.getD k8 d_Str) hf23 (getD_mem (by omega)) (okL.getD o2 ok_d_Str _)) ?_))))))
   rintro v28 w27 ⟨rfl, hE29⟩
   have hE29z := Ex.size hE29
   refine dn (bcase (p_f (p_s.getD k8 d_Str)) (fun hb30 => ?_) (fun hb30 => ?_))
   ·refine CW.cond_t rfl hb30 (CW.seq (CW.region (sd rfl (yl_move rfl rfl (sd rfl (yl_assign rfl rfl (dn (CW.ret (br ?_)))))))))
    refine tr (tr ?_)
    have hB32 : B_g_slices_IndexFunc_string_0 p_s p_f k8 () = .ret (k8 : Int) := by simp only [B_g_slices_IndexFunc_string_0, hb30, cL]
    have hL31 : loopM (B_g_slices_IndexFunc_string_0 p_s p_f) (p_s.length - 0) 0 () = .ret (k8 : Int) := hI16.symm.trans (loopM.ret hlt25 hB32)
    refine br (tr (rr rfl (.cons rfl .nil) ?_))
    have hM33 : (g_slices_IndexFunc_string p_s p_f) = ((k8 : Int)) := by simp only [g_slices_IndexFunc_string, hb30, hL31, cL]
    rw [hM33]
    exact ⟨rfl, (Ex.trans hf23 hE29)⟩
   ·refine CW.cond_f rfl hb30 (CW.skip (bn (tn (CW.region (sd rfl (yl_inc rfl rfl rfl (by omega) (sd rfl (yl_move rfl rfl (dn ?_)))))))))
    have hB35 : B_g_slices_IndexFunc_string_0 p_s p_f k8 () = .cont () := by simp only [B_g_slices_IndexFunc_string_0, hb30, cL]
    exact ⟨p_s.length - (k8 + 1), by omega, k8 + 1, rfl, hlt25, (by omega), rfl, rfl, rfl, rfl, (RdS.ex good_Str hf22 hE29), (Ex.trans hf23 hE29), (loopM.cont hlt25 hB35).symm.trans hI16⟩
  ·refine CW.seq (CW.region (sd rfl (yl_lss rfl rfl rfl (dn (CW.seq (CW.cond_f rfl (lt_f hlt25) (CW.exit (tx ?_))))))))
   refine tx ?_
   have hL38 : loopM (B_g_slices_IndexFunc_string_0 p_s p_f) (p_s.length - 0) 0 () = .done () := hI16.symm.trans (loopM.stop hlt25)
   refine bx (tn (CW.seq (CW.region (sd rfl (yl_assign rfl rfl (dn (CW.ret (rr rfl (.cons rfl .nil) ?_))))))))
   have hM39 : (g_slices_IndexFunc_string p_s p_f) = (-1) := by simp only [g_slices_IndexFunc_string, hL38, cL]
   rw [hM39]
   exact ⟨rfl, hf23⟩
theorem c_g_slices_DeleteFunc_string {A1 : Option Addr} {c1 : Nat} {lo1 hi1 : Nat} {g3 : Nat} {cp4 : List Value} {w : World} (p_s : List Str) (p_f : Str → Bool) (h1 : OwnL w lo1 hi1 9 1 (RF e_Str) A1 p_s.length c1 p_s) (hen5 : Go.X.Enters Tryz.prog g3) (hfn6 : ∀ (w1 : World) (y0 : Str), Mut [(lo1, hi1)] w w1 → y0 ∈ p_s → okS y0 → Cal Tryz.prog g3 (([.string (bs y0)] : List Value) ++ cp4).toArray w1 fun v w2 => v = .bool (p_f y0) ∧ Ex w1 w2) (hrn7 : (0 ≤ lo1 ∧ lo1 ≤ hi1 ∧ hi1 ≤ w.heap.size)) (o2 : (okL okS) p_s) : Cal Tryz.prog 64 #[.slice A1 p_s.length c1, .func (.func g3) #[] cp4.toArray] w fun v w' => ∃ A_1 c_1, v = .slice A_1 ((g_slices_DeleteFunc_string p_s p_f).length) c_1 ∧ OwnL w' lo1 hi1 9 1 (RF e_Str) A_1 ((g_slices_DeleteFunc_string p_s p_f).length) c_1 (g_slices_DeleteFunc_string p_s p_f) ∧ (okL okS) (g_slices_DeleteFunc_string p_s p_f) ∧ Mut [(lo1, hi1)] w w' := by
 have hn := o2.1
 have hok : (okL okS) (g_slices_DeleteFunc_string p_s p_f) := ⟨Nat.le_trans (List.length_filter_le _ _) o2.1, fun x hx => o2.2 x (List.mem_filter.1 hx).1⟩
 refine Cal.of func64 rfl ntmps64 rfl (CW.seq (CW.region (sd rfl (yl_assign rfl rfl (dn (CW.seq (CW.region (sd rfl (yl_move rfl rfl (sd rfl (yl_move rfl rfl (sd rfl (yl_call en85 rfl (oc rfl (oc rfl oz)) (Cal.mono (c_g_slices_IndexFunc_string p_s p_f (RdS.up (OwnL.rd good_Str h1) good_Str) hen5 (fun w1 y0 hE => hfn6 w1 y0 (Mut.ex (Mut.refl w) hE)) o2) ?_))))))))))))))
 rintro v7 w8 ⟨rfl, hE9⟩
 refine sd rfl (yl_assign rfl rfl (dn (CW.seq (CW.seq (CW.region (sd rfl (yl_move rfl rfl (sd rfl (yl_eql rfl rfl rfl (dn (bcase (decide (g_slices_IndexFunc_string p_s p_f = -1)) (fun hb => ?_) (fun hb => ?_))))))))))))
 ·have hbp := dec_t hb
  refine CW.cond_t rfl hb (CW.seq (CW.region (sd rfl (yl_move rfl rfl (sd rfl (yl_assign rfl rfl (dn (CW.ret (tr (rr rfl (.cons rfl .nil) ?_))))))))))
  have hx : ∀ x ∈ p_s, p_f x = false := by
   rcases idxF_spec p_f d_Str p_s with ⟨_, h⟩ | ⟨k, _, h, _⟩
   ·exact h
   ·rw [show g_slices_IndexFunc_string p_s p_f = idxF p_f d_Str p_s from rfl, h] at hbp; omega
  have hM : (g_slices_DeleteFunc_string p_s p_f) = p_s := filter_none hx
  rw [hM]
  exact ⟨_, _, rfl, OwnL.ex good_Str h1 hE9, o2, Mut.ex (Mut.refl w) hE9⟩
 ·have hbp := dec_f hb
  obtain ⟨i0, hi0, hS⟩ : ∃ i0 : Nat, g_slices_IndexFunc_string p_s p_f = (i0 : Int) ∧ DF p_f p_s p_s i0 (i0 + 1) := by
   rcases idxF_spec p_f d_Str p_s with ⟨h, _⟩ | ⟨k, hk, h, ht, hbef⟩
   ·exact absurd h hbp
   ·exact ⟨k, h, DF.start hk ht hbef⟩
  have hw : IntKind.wrap .i64 (g_slices_IndexFunc_string p_s p_f + 1) = ((i0 + 1 : Nat) : Int) := by rw [hi0, wrap_in (by have := hS.le; omega)]; rfl
  refine CW.cond_f rfl hb (CW.skip (tn (CW.seq (CW.seq (CW.region (sd rfl (yl_move rfl rfl (sd rfl (yl_add rfl rfl rfl (sd rfl (yl_assign rfl rfl (dn (CW.block (CW.loop (fun m L w2 => ∃ (i j : Nat) (xs : List Str), p_s.length - j < m ∧ w.heap.size ≤ w2.heap.size ∧ lkp L 0 = some (.slice A1 p_s.length c1) ∧ lkp L 1 = some (.func (.func g3) #[] cp4.toArray) ∧ lkp L 5 = some (.int .i64 (i : Int)) ∧ lkp L 6 = some (.int .i64 (j : Int)) ∧ OwnL w2 lo1 hi1 9 1 (RF e_Str) A1 p_s.length c1 xs ∧ Mut [(lo1, hi1)] w w2 ∧ DF p_f p_s xs i j) (p_s.length + 1) ?_ ?_))))))))))))))
  ·exact ⟨i0, i0 + 1, p_s, by omega, Ex.size hE9, rfl, rfl, by rw [← hi0]; rfl, by rw [← hw]; rfl, OwnL.ex good_Str h1 hE9, Mut.ex (Mut.refl w) hE9, hS⟩
  ·rintro m L w2 ⟨i, j, xs, hm, hsz, hl0, hl1, hl5, hl6, hO, hM, hD⟩
   have hij := hD.lt
   have hjn := hD.le
   refine CW.sub (Sub.cons hl0 (Sub.cons hl1 (Sub.cons hl5 (Sub.cons hl6 (Sub.nil _))))) ?_
   refine CW.seq (CW.seq (CW.region (sd rfl (yl_move rfl rfl (sd rfl (yl_move rfl rfl (sd rfl (yl_len un22 rfl rfl (sd rfl (yl_lss rfl rfl rfl (dn (bcase (decide ((j : Int) < (p_s.length : Int))) (fun hb2 => ?_) (fun hb2 => ?_)))))))))))))
   ·have hj : j < p_s.length := by have := dec_t hb2; omega
    obtain ⟨eb, eo, ec, eA, _, ebl, _, eR, eC⟩ := RdS.atD (OwnL.rd good_Str hO) d_Str (i := j) (by omega)
    have eC : Cells w2 eb (eo + j * 1) [.string (bs (p_s.getD j d_Str))] := by rw [hD.get hj] at eR; have e : ec = [.string (bs (p_s.getD j d_Str))] := eR; rw [← e]; exact eC
    refine CW.cond_t rfl hb2 (CW.skip (tn (CW.seq (CW.block (CW.seq (CW.region (sd rfl (yl_move rfl rfl (sd rfl (yl_move rfl rfl (sd rfl (yl_indexAddrN un22 ty9 rfl rfl rfl eA hj (sd rfl (yl_load1 ty9 rfl rfl (eC 0 _ rfl) (sd rfl (yl_assign rfl rfl (dn (CW.seq (CW.region ?_)))))))))))))))))))
    refine sd rfl (yl_move rfl rfl (sd rfl (yl_move rfl rfl (sd rfl (yl_callv hen5 rfl rfl (oc rfl oz) (Cal.mono (hfn6 w2 (p_s.getD j d_Str) hM (getD_mem hj) (okL.getD o2 ok_d_Str _)) ?_))))))
    rintro v w3 ⟨rfl, hE3⟩
    refine sd rfl (yl_not rfl rfl (dn (bcase (p_f (p_s.getD j d_Str)) (fun hb3 => ?_) (fun hb3 => ?_))))
    ·refine CW.cond_f rfl (not_t hb3) (CW.skip (bn (tn (CW.region (sd rfl (yl_move rfl rfl (sd rfl (yl_add rfl rfl rfl (sd rfl (yl_assign rfl rfl (SeqR.done (tn ?_))))))))))))
     exact ⟨m - 1, by omega, i, j + 1, xs, by omega, Nat.le_trans hsz (Ex.size hE3), rfl, rfl, rfl, by rw [← show IntKind.wrap .i64 ((j : Int) + 1) = ((j + 1 : Nat) : Int) from wrap_in (by omega)]; rfl, OwnL.ex good_Str hO hE3, Mut.ex hM hE3, hD.gone hj hb3⟩
    ·have hO3 := OwnL.ex good_Str hO hE3
     obtain ⟨fb, fo, fc, fA, _, fbl, _, fR, fC⟩ := RdS.atD (OwnL.rd good_Str hO3) d_Str (i := i) (by omega)
     refine CW.cond_t rfl (not_f hb3) (CW.seq (CW.region (sd rfl (yl_move rfl rfl (sd rfl (yl_move rfl rfl (sd rfl (yl_move rfl rfl (sd rfl (yl_indexAddrN un22 ty9 rfl rfl rfl fA (show i < p_s.length by omega) (SeqR.u rfl rfl (yl_storeF (enc := e_Str) (i := i) (d := 0) (x' := (p_s.getD j d_Str)) (dx := d_Str) ty9 rfl hO3 fA rfl rfl (vs := [.string (bs (p_s.getD j d_Str))]) rfl rfl rfl (by omega) (by decide) rfl rfl ?_))))))))))))
     intro w4 hO4 hN4
     refine dn (CW.region (sd rfl (yl_move rfl rfl (sd rfl (yl_add rfl rfl rfl (sd rfl (yl_assign rfl rfl (SeqR.done (bn (tn (CW.region (sd rfl (yl_move rfl rfl (sd rfl (yl_add rfl rfl rfl (sd rfl (yl_assign rfl rfl (SeqR.done (tn ?_)))))))))))))))))))
     exact ⟨m - 1, by omega, i + 1, j + 1, _, by omega, by rw [hN4.size]; exact Nat.le_trans hsz (Ex.size hE3), rfl, rfl, by rw [← show IntKind.wrap .i64 ((i : Int) + 1) = ((i + 1 : Nat) : Int) from wrap_in (by omega)]; rfl, by rw [← show IntKind.wrap .i64 ((j : Int) + 1) = ((j + 1 : Nat) : Int) from wrap_in (by omega)]; rfl, hO4, Mut.only (Mut.ex hM hE3) hN4 (Or.inl (hO3.rng (i := i) (by omega) fb (by rw [fA]; rfl))), hD.kept hj hb3⟩
   ·have hj : j = p_s.length := by have := dec_f hb2; omega
    subst hj
    obtain ⟨ht, hik⟩ := hD.done
    refine CW.cond_f rfl hb2 (CW.exit (tx (tx ?_)))
    refine bx (tn (CW.seq (CW.region (sd rfl (yl_move rfl rfl (sd rfl (yl_move rfl rfl (sd rfl (yl_slice (l := i) (h := p_s.length) (kh := .i64) un22 ty9 rfl rfl (Or.inr ⟨_, rfl, rfl⟩) (Or.inl ⟨rfl, rfl⟩) (by omega) (by have := (OwnL.rd good_Str hO).2.1; omega) (SeqR.u rfl rfl (yl_clearT good_Str un22 ty9 rfl rfl rfl rfl hO (by omega) ?_)))))))))))
    intro v5 w5 hO5 hM5
    obtain ⟨fb, fo, fc, fA, _, fbl, _, fR, fC⟩ := RdS.atD (OwnL.rd good_Str hO) d_Str (i := i) (by omega)
    have hic : i ≤ c1 := by have := (OwnL.rd good_Str hO).2.1; omega
    refine dn (CW.seq (CW.region (sd rfl (yl_move rfl rfl (sd rfl (yl_move rfl rfl (sd rfl (yl_slice (l := 0) (h := i) (kl := .i64) un22 ty9 rfl rfl (Or.inl ⟨rfl, rfl⟩) (Or.inr ⟨_, rfl, rfl⟩) (Nat.zero_le _) hic (sd rfl (yl_assign rfl rfl (dn (CW.ret (rr rfl (.cons rfl .nil) ?_)))))))))))))
    have e : (if c1 = 0 then A1 else A1.map (·.add (0 * 1))) = A1 := by
     split
     ·rfl
     ·rw [Nat.zero_mul]; exact headA fA
    rw [ht] at hO5
    have hz : (g_slices_DeleteFunc_string p_s p_f).length = i := hik.symm
    rw [e, hz]
    exact ⟨_, _, rfl, hO5, hok, hM.mut hM5 fun _ h => h⟩
end Go.Proofs.YtfhpejjhhhgooaaGreatDoor
