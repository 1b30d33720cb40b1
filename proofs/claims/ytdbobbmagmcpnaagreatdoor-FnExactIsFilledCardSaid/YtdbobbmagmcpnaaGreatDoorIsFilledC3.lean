/- Is Filled: what each call returns, part 3. -/
import Derived.Test.YtdbobbmagmcpnaaGreatDoorIsFilledC2
set_option maxRecDepth 100000
set_option maxHeartbeats 2000000
open Go.Proofs.Tryz Go.Proofs.YtdbobbmagmcpnaaGreatDoor.Tryz
set_option linter.unusedVariables false
set_option linter.unusedSimpArgs false
namespace Go.Proofs.YtdbobbmagmcpnaaGreatDoor
open Go.RowKit Go.X
theorem c_l_toTable {A1 : Option Addr} {c1 : Nat} {A2 : Option Addr} {c2 : Nat} {w : World} (p_a : DTable) (h1 : RdS w (Iv 0 w.heap.size) (RF e_Str) 1 A1 p_a.Cols.length c1 p_a.Cols) (h2 : RdS w (Iv 0 w.heap.size) (RF e_Idx) 3 A2 p_a.Idxs.length c2 p_a.Idxs) (o3 : ok_Table p_a) : Cal Tryz.prog 8 #[.agg #[.string (bs (p_a.Name)), .slice A1 p_a.Cols.length c1, .slice A2 p_a.Idxs.length c2]] w fun v w' => ∃ A_1 c_1 lo_1 hi_1 A_2 c_2 lo_2 hi_2, v = .agg #[.string (bs (p_a.Name)), .slice A_1 p_a.Cols.length c_1, .slice A_2 p_a.Idxs.length c_2] ∧ OwnL w' lo_1 hi_1 9 1 (RF e_Str) A_1 p_a.Cols.length c_1 p_a.Cols ∧ OwnL w' lo_2 hi_2 104 3 (RF e_Idx) A_2 p_a.Idxs.length c_2 p_a.Idxs ∧ (w.heap.size ≤ lo_1 ∧ lo_1 ≤ hi_1 ∧ hi_1 ≤ w'.heap.size) ∧ (w.heap.size ≤ lo_2 ∧ lo_2 ≤ hi_2 ∧ hi_2 ≤ w'.heap.size) ∧ (hi_1 ≤ lo_2 ∨ hi_2 ≤ lo_1) ∧ Ex w w' := by
 have hol4 : p_a.Name.length ≤ 1073741824 := o3.1
 have hol5 := o3.2.1.1
 have hol6 := o3.2.2.1
 refine Cal.of func8 rfl ntmps8 rfl (CW.seq (CW.region (sd rfl (yl_box rfl rfl rfl ?_))))
 intro b7 w8 hs9 hz10 hB11 hE12
 refine sd rfl (yl_alloc ty34 (cs := [.string (bs (([] : Str))), .slice none 0 0, .slice none 0 0]) rfl rfl ?_)
 intro b13 w14 hs15 hz16 hB17 hE18
 refine dn (CW.seq (CW.region (sd rfl (yl_alloc ty34 (cs := [.string (bs (([] : Str))), .slice none 0 0, .slice none 0 0]) rfl rfl ?_))))
 intro b19 w20 hs21 hz22 hB23 hE24
 refine dn (CW.seq (CW.region (sd rfl (yl_fieldAddr fd25_0 rfl rfl ?_))))
 have q26 := Box.ex (Box.ex hB11 hE18) hE24
 refine sd rfl (yl_load1 ty9 rfl rfl ((q26.cell 0).trans rfl) (sd rfl (yl_fieldAddr fd34_0 rfl rfl (SeqR.u rfl rfl (yl_store (vs := [.string (bs (p_a.Name))]) ty9 rfl rfl rfl rfl rfl rfl hB23 (Nat.le_of_ble_eq_true rfl) ?_)))))
 intro w27 hB28 hO29
 have hB28 : Box w27 b19 34 [.string (bs (p_a.Name)), .slice none 0 0, .slice none 0 0] := hB28
 have hO29z := hO29.size
 refine dn (CW.seq (CW.region (sd rfl (yl_fieldAddr fd25_1 rfl rfl ?_))))
 have q30 := Box.only q26 hO29 (by omega)
 refine sd rfl (yl_load1 ty22 rfl rfl ((q30.cell 1).trans rfl) (sd rfl (yl_call en29 rfl (oc rfl oz) (Cal.mono (c_l_toStringS p_a.Cols (RdS.up (RdS.only good_Str (RdS.ex good_Str (RdS.ex good_Str (RdS.ex good_Str h1 hE12) hE18) hE24) hO29 (by simp only [Iv]; omega)) good_Str) o3.2.1) ?_))))
 rintro v37 w35 ⟨A36, c36, lo36, hi36, rfl, h36, hrn39, hE38⟩
 have hE38z := Ex.size hE38
 refine sd rfl (yl_fieldAddr fd34_1 rfl rfl (SeqR.u rfl rfl (yl_store (vs := [.slice A36 p_a.Cols.length c36]) ty22 rfl rfl rfl rfl rfl rfl (Box.ex hB28 hE38) (Nat.le_of_ble_eq_true rfl) ?_)))
 intro w41 hB42 hO43
 have hB42 : Box w41 b19 34 [.string (bs (p_a.Name)), .slice A36 p_a.Cols.length c36, .slice none 0 0] := hB42
 have hO43z := hO43.size
 refine dn (CW.seq (CW.region (sd rfl (yl_fieldAddr fd25_2 rfl rfl (sd rfl (yl_load1 ty23 rfl rfl (((Box.only (Box.ex q30 hE38) hO43 (by omega)).cell 2).trans rfl) (sd rfl (yl_call en30 rfl (oc rfl oz) (Cal.mono (c_l_toIdxS p_a.Idxs (RdS.up (RdS.only good_Idx (RdS.ex good_Idx (RdS.only good_Idx (RdS.ex good_Idx (RdS.ex good_Idx (RdS.ex good_Idx h2 hE12) hE18) hE24) hO29 (by simp only [Iv]; omega)) hE38) hO43 (by simp only [Iv]; omega)) good_Idx) o3.2.2) ?_)))))))))
 rintro v54 w52 ⟨A53, c53, lo53, hi53, rfl, h53, hrn56, hE55⟩
 have hE55z := Ex.size hE55
 refine sd rfl (yl_fieldAddr fd34_2 rfl rfl (SeqR.u rfl rfl (yl_store (vs := [.slice A53 p_a.Idxs.length c53]) ty32 rfl rfl rfl rfl rfl rfl (Box.ex hB42 hE55) (Nat.le_of_ble_eq_true rfl) ?_)))
 intro w58 hB59 hO60
 have hB59 : Box w58 b19 34 [.string (bs (p_a.Name)), .slice A36 p_a.Cols.length c36, .slice A53 p_a.Idxs.length c53] := hB59
 have hO60z := hO60.size
 refine dn (CW.seq (CW.region (sd rfl (yl_loadN ty34 rfl rfl (hB59.cells (n := 3) rfl) rfl (SeqR.u rfl rfl (yl_store (vs := [.string (bs (p_a.Name)), .slice A36 p_a.Cols.length c36, .slice A53 p_a.Idxs.length c53]) ty34 rfl rfl rfl rfl rfl rfl (Box.only (Box.ex (Box.only (Box.ex (Box.only (Box.ex hB17 hE24) hO29 (by omega)) hE38) hO43 (by omega)) hE55) hO60 (by omega)) (Nat.le_of_ble_eq_true rfl) ?_))))))
 intro w67 hB68 hO69
 have hB68 : Box w67 b13 34 [.string (bs (p_a.Name)), .slice A36 p_a.Cols.length c36, .slice A53 p_a.Idxs.length c53] := hB68
 have hO69z := hO69.size
 refine dn (CW.ret (rr rfl (.cons ⟨_, rfl, run_loadN ty34 (cs := [.string (bs (p_a.Name)), .slice A36 p_a.Cols.length c36, .slice A53 p_a.Idxs.length c53]) rfl (hB68.cells (n := 3) rfl)⟩ .nil) ?_))
 have hM70 : p_a = (p_a) := (to_Table _).symm.trans <| by simp only [l_toTable, cL]
 rw [hM70]
 exact ⟨A36, c36, lo36, hi36, A53, c53, lo53, hi53, rfl, (OwnL.only good_Str (OwnL.only good_Str (OwnL.ex good_Str (OwnL.only good_Str h36 hO43 (by omega)) hE55) hO60 (by omega)) hO69 (by omega)), (OwnL.only good_Idx (OwnL.only good_Idx h53 hO60 (by omega)) hO69 (by omega)), (by omega), (by omega), (by omega), (Below.only (Below.only (Ex.trans (Below.only (Ex.trans (Below.only (Ex.trans (Ex.trans (Ex.trans (Ex.refl w) hE12) hE18) hE24) hO29 (by omega)) hE38) hO43 (by omega)) hE55) hO60 (by omega)) hO69 (by omega))⟩
theorem c_l_toTableS {A1 : Option Addr} {c1 : Nat} {w : World} (p_a : List DTable) (h1 : RdS w (Iv 0 w.heap.size) R_Table 3 A1 p_a.length c1 p_a) (o2 : (okL ok_Table) p_a) : Cal Tryz.prog 82 #[.slice A1 p_a.length c1] w fun v w' => ∃ A_1 c_1 lo_1 hi_1, v = .slice A_1 p_a.length c_1 ∧ OwnL w' lo_1 hi_1 34 3 R_Table A_1 p_a.length c_1 p_a ∧ (w.heap.size ≤ lo_1 ∧ lo_1 ≤ hi_1 ∧ hi_1 ≤ w'.heap.size) ∧ Ex w w' := by
 have hol3 := o2.1
 refine Cal.of func82 rfl ntmps82 rfl (CW.seq (CW.region (sd rfl (yl_assign rfl rfl (dn (CW.seq (CW.region (sd rfl (yl_move rfl rfl ?_)))))))))
 refine sd rfl (yl_len un45 rfl rfl (sd rfl (yl_make (zs := [.string (bs (([] : Str))), .slice none 0 0, .slice none 0 0]) (n := p_a.length) un56 ty34 rfl rfl (Nat.le_of_ble_eq_true rfl) rfl rfl rfl (by first | omega | assumption | (simp only [wI] at *; omega)) (by first | omega | assumption | (simp only [wI] at *; omega)) ?_)))
 intro b4 w5 hs6 hz7 hB8 hE9
 have hO10 : OwnL w5 b4 (b4 + 1) 34 3 R_Table (some ⟨b4, 0, none⟩) p_a.length p_a.length (List.replicate p_a.length d_Table) := by have := OwnL.of_box (lo := b4) (hi := b4 + 1) (R := R_Table) (S := fun _ => False) (xs := (List.replicate p_a.length d_Table)) hB8 (Nat.le_refl _) (Nat.lt_succ_self _) (EncL.zeros (Rl := R_Table w5 (fun _ => False)) (x := d_Table) ⟨none, 0, none, 0, rfl, RdS.nil _ _ _ _ _ _ (by decide), RdS.nil _ _ _ _ _ _ (by decide)⟩ p_a.length) (by rw [List.length_replicate]; omega) (fun h => h) (fun _ h => False.elim h); rwa [List.length_replicate] at this
 refine sd rfl (yl_assign rfl rfl (dn (CW.seq (CW.seq (CW.region (sd rfl (yl_assign rfl rfl (dn ?_))))))))
 refine CW.block (CW.loop (fun m35 L36 w37 => ∃ (k11 : Nat) (x33 : List DTable) (u34 : Nat), m35 = p_a.length - k11 ∧ k11 ≤ p_a.length ∧ w5.heap.size ≤ w37.heap.size ∧ lkp L36 0 = some (.slice A1 p_a.length c1) ∧ lkp L36 3 = some (.slice (some ⟨b4, 0, none⟩) p_a.length p_a.length) ∧ lkp L36 4 = some (.int .i64 ((k11 : Int))) ∧ RdS w37 (Iv 0 w.heap.size) R_Table 3 A1 p_a.length c1 p_a ∧ OwnL w37 b4 u34 34 3 R_Table (some ⟨b4, 0, none⟩) p_a.length p_a.length x33 ∧ Ex w w37 ∧ (b4 ≤ u34 ∧ u34 ≤ w37.heap.size) ∧ loopM (B_l_toTableS_0 p_a) (p_a.length - k11) k11 (x33) = loopM (B_l_toTableS_0 p_a) (p_a.length - 0) 0 ((List.replicate p_a.length d_Table))) (p_a.length - 0) ?_ ?_)
 ·exact ⟨0, (List.replicate p_a.length d_Table), (b4 + 1), rfl, (by omega), Nat.le_refl _, rfl, rfl, rfl, (RdS.ex good_Table h1 hE9), hO10, (Ex.trans (Ex.refl w) hE9), (by omega), rfl⟩
 ·rintro m40 L41 w42 ⟨k11, x33, u34, rfl, hk43, hsz45, hl46, hl47, hl48, hf49, hf50, hf51, hu52, hI44⟩
  refine CW.sub (Sub.cons hl46 (Sub.cons hl47 (Sub.cons hl48 (Sub.nil _)))) ?_
  have hf51z := Ex.size hf51
  have hbg53 := RdS.big hf49
  rcases Nat.lt_or_ge k11 p_a.length with hlt54 | hlt54
  ·refine CW.seq (CW.seq (CW.region (sd rfl (yl_move rfl rfl (sd rfl (yl_move rfl rfl (sd rfl (yl_len un45 rfl rfl (sd rfl (yl_lss rfl rfl rfl (dn ?_)))))))))))
   refine CW.cond_t rfl (lt_t hlt54) (CW.skip (tn (CW.seq (CW.block (CW.region (sd rfl (yl_move rfl rfl (sd rfl (yl_move rfl rfl (sd rfl (yl_move rfl rfl ?_)))))))))))
   refine sd rfl (yl_move rfl rfl ?_)
   obtain ⟨_, _, _, eA55, _, ebl55, _, eR55, eC55⟩ := RdS.aD hf49 d_Table (i := k11)
   obtain ⟨A56, c56, A57, c57, rfl, h56, h57⟩ := eR55
   refine sd rfl (yl_ixN un45 ty25 rfl rfl rfl eA55 (sd rfl (yl_loadN ty25 rfl rfl eC55 rfl (sd rfl (yl_call en8 rfl (oc rfl oz) (Cal.mono (c_l_toTable (p_a.getD k11 d_Table) (RdS.up h56 good_Str) (RdS.up h57 good_Idx) (okL.getD o2 ok_d_Table _)) ?_))))))
   rintro v61 w58 ⟨A59, c59, lo59, hi59, A60, c60, lo60, hi60, rfl, h59, h60, hrn63, hrn64, hrn65, hE62⟩
   have hE62z := Ex.size hE62
   have q67 := OwnL.ex good_Table hf50 hE62
   obtain ⟨eb68, eo68, _, eA68, _, ebl68, _, eR68, _⟩ := RdS.aD (OwnL.rd good_Table q67) d_Table (i := k11)
   obtain ⟨A69, c69, A70, c70, rfl, h69, h70⟩ := eR68
   refine sd rfl (yl_ixN un56 ty34 rfl rfl rfl eA68 ?_)
   have hrg71 := OwnL.rng q67 (i := k11) (by first | omega | assumption | (simp only [wI] at *; omega)) eb68 (by rw [eA68]; rfl)
   refine SeqR.u rfl rfl (yl_storeW (off := eo68) (i := k11) (x' := (p_a.getD k11 d_Table)) (vs := [.string (bs ((p_a.getD k11 d_Table).Name)), .slice A59 (((p_a.getD k11 d_Table).Cols).length) c59, .slice A60 (((p_a.getD k11 d_Table).Idxs).length) c60]) (S' := (Iv w42.heap.size w58.heap.size)) good_Table ty34 rfl q67 eA68 rfl rfl rfl rfl (by first | omega | assumption | (simp only [wI] at *; omega)) ⟨A59, c59, A60, c60, rfl, (RdS.wide good_Str (OwnL.rd good_Str h59) (fun b hh hl => ⟨by have := hh.1; omega, hl⟩)), (RdS.wide good_Idx (OwnL.rd good_Idx h60) (fun b hh hl => ⟨by have := hh.1; omega, hl⟩))⟩ (fun b hh _ => ⟨by have := hh.1; omega, by have := hh.1; omega⟩) (by omega) ?_)
   intro w72 hB73 hO74
   have hO74z := hO74.size
   refine SeqR.done (bn (tn (CW.region (sd rfl (yl_move rfl rfl (sd rfl (yl_inc rfl rfl rfl (by omega) (sd rfl (yl_assign rfl rfl (dn ?_))))))))))
   have hB77 : B_l_toTableS_0 p_a k11 (x33) = .cont ((x33.set k11 (p_a.getD k11 d_Table))) := by simp only [B_l_toTableS_0, cL]
   exact ⟨p_a.length - (k11 + 1), by omega, k11 + 1, (x33.set k11 (p_a.getD k11 d_Table)), w72.heap.size, rfl, hlt54, (by omega), rfl, rfl, rfl, (RdS.only good_Table (RdS.ex good_Table hf49 hE62) hO74 (by simp only [Iv]; omega)), hB73, (Below.only (Ex.trans hf51 hE62) hO74 (by omega)), (by omega), (loopM.cont hlt54 hB77).symm.trans hI44⟩
  ·refine CW.seq (CW.seq (CW.region (sd rfl (yl_move rfl rfl (sd rfl (yl_move rfl rfl (sd rfl (yl_len un45 rfl rfl (sd rfl (yl_lss rfl rfl rfl (dn ?_)))))))))))
   refine CW.cond_f rfl (lt_f hlt54) (CW.exit (tx (tx ?_)))
   have hL82 : loopM (B_l_toTableS_0 p_a) (p_a.length - 0) 0 ((List.replicate p_a.length d_Table)) = .done (x33) := hI44.symm.trans (loopM.stop hlt54)
   refine bx (tn (CW.seq (CW.region (sd rfl (yl_move rfl rfl (sd rfl (yl_assign rfl rfl (dn (CW.ret ?_)))))))))
   refine rr rfl (.cons rfl .nil) ?_
   have hM83 : p_a = (x33) := (to_TableS _).symm.trans <| by simp only [l_toTableS, hL82, cL]
   subst hM83
   exact ⟨(some ⟨b4, 0, none⟩), p_a.length, b4, u34, rfl, hf50, (by omega), hf51⟩
theorem c_l_toIntS {A1 : Option Addr} {c1 : Nat} {w : World} (p_a : List Int) (h1 : RdS w (Iv 0 w.heap.size) (RF e_Int) 1 A1 p_a.length c1 p_a) (o2 : (okL okT) p_a) : Cal Tryz.prog 83 #[.slice A1 p_a.length c1] w fun v w' => ∃ A_1 c_1 lo_1 hi_1, v = .slice A_1 p_a.length c_1 ∧ OwnL w' lo_1 hi_1 3 1 (RF e_Int) A_1 p_a.length c_1 p_a ∧ (w.heap.size ≤ lo_1 ∧ lo_1 ≤ hi_1 ∧ hi_1 ≤ w'.heap.size) ∧ Ex w w' := by
 have hol3 := o2.1
 refine Cal.of func83 rfl ntmps83 rfl (CW.seq (CW.region (sd rfl (yl_assign rfl rfl (dn (CW.seq (CW.region (sd rfl (yl_move rfl rfl ?_)))))))))
 refine sd rfl (yl_len un46 rfl rfl (sd rfl (yl_make (zs := [.int .i64 (0)]) (n := p_a.length) un46 ty3 rfl rfl (Nat.le_of_ble_eq_true rfl) rfl rfl rfl (by first | omega | assumption | (simp only [wI] at *; omega)) (by first | omega | assumption | (simp only [wI] at *; omega)) ?_)))
 intro b4 w5 hs6 hz7 hB8 hE9
 have hO10 : OwnL w5 b4 (b4 + 1) 3 1 (RF e_Int) (some ⟨b4, 0, none⟩) p_a.length p_a.length (List.replicate p_a.length d_Int) := by have := OwnL.of_boxF (lo := b4) (hi := b4 + 1) (xs := (List.replicate p_a.length d_Int)) hB8 (Nat.le_refl _) (Nat.lt_succ_self _) (EncL.zerosF (enc := e_Int) (d := d_Int) rfl p_a.length) (by rw [List.length_replicate]; omega); rwa [List.length_replicate] at this
 refine sd rfl (yl_assign rfl rfl (dn (CW.seq (CW.seq (CW.region (sd rfl (yl_assign rfl rfl (dn ?_))))))))
 refine CW.block (CW.loop (fun m20 L21 w22 => ∃ (k11 : Nat) (x19 : List Int), m20 = p_a.length - k11 ∧ k11 ≤ p_a.length ∧ w5.heap.size ≤ w22.heap.size ∧ lkp L21 0 = some (.slice A1 p_a.length c1) ∧ lkp L21 3 = some (.slice (some ⟨b4, 0, none⟩) p_a.length p_a.length) ∧ lkp L21 4 = some (.int .i64 ((k11 : Int))) ∧ RdS w22 (Iv 0 w.heap.size) (RF e_Int) 1 A1 p_a.length c1 p_a ∧ OwnL w22 b4 (b4 + 1) 3 1 (RF e_Int) (some ⟨b4, 0, none⟩) p_a.length p_a.length x19 ∧ Ex w w22 ∧ loopM (B_l_toIntS_0 p_a) (p_a.length - k11) k11 (x19) = loopM (B_l_toIntS_0 p_a) (p_a.length - 0) 0 ((List.replicate p_a.length d_Int))) (p_a.length - 0) ?_ ?_)
 ·exact ⟨0, (List.replicate p_a.length d_Int), rfl, (by omega), Nat.le_refl _, rfl, rfl, rfl, (RdS.ex good_Int h1 hE9), hO10, (Ex.trans (Ex.refl w) hE9), rfl⟩
 ·rintro m25 L26 w27 ⟨k11, x19, rfl, hk28, hsz30, hl31, hl32, hl33, hf34, hf35, hf36, hI29⟩
  refine CW.sub (Sub.cons hl31 (Sub.cons hl32 (Sub.cons hl33 (Sub.nil _)))) ?_
  have hf36z := Ex.size hf36
  have hbg37 := RdS.big hf34
  rcases Nat.lt_or_ge k11 p_a.length with hlt38 | hlt38
  ·refine CW.seq (CW.seq (CW.region (sd rfl (yl_move rfl rfl (sd rfl (yl_move rfl rfl (sd rfl (yl_len un46 rfl rfl (sd rfl (yl_lss rfl rfl rfl (dn ?_)))))))))))
   refine CW.cond_t rfl (lt_t hlt38) (CW.skip (tn (CW.seq (CW.block (CW.region (sd rfl (yl_move rfl rfl (sd rfl (yl_move rfl rfl (sd rfl (yl_move rfl rfl ?_)))))))))))
   refine sd rfl (yl_move rfl rfl ?_)
   obtain ⟨eb39, eo39, _, eA39, _, ebl39, _, eR39, eC39⟩ := RdS.aD hf34 d_Int (i := k11)
   obtain rfl := eR39
   have eC39 : Cells w27 eb39 (eo39 + k11 * 1) [.int .i64 ((p_a.getD k11 d_Int))] := eC39
   refine sd rfl (yl_ixN un46 ty3 rfl rfl rfl eA39 (sd rfl (yl_load1 ty3 rfl rfl (eC39 0 _ rfl) ?_)))
   obtain ⟨eb41, eo41, _, eA41, _, ebl41, _, eR41, eC41⟩ := RdS.aD (OwnL.rd good_Int hf35) d_Int (i := k11)
   obtain rfl := eR41
   have eC41 : Cells w27 eb41 (eo41 + k11 * 1) [.int .i64 ((x19.getD k11 d_Int))] := eC41
   refine sd rfl (yl_ixN un46 ty3 rfl rfl rfl eA41 ?_)
   have hrg42 := OwnL.rng hf35 (i := k11) (by first | omega | assumption | (simp only [wI] at *; omega)) eb41 (by rw [eA41]; rfl)
   refine SeqR.u rfl rfl (yl_storeF (off := eo41) (i := k11) (d := 0) (dx := d_Int) (x' := (p_a.getD k11 d_Int)) (vs := [.int .i64 ((p_a.getD k11 d_Int))]) ty3 rfl hf35 eA41 rfl rfl rfl rfl rfl (by first | omega | assumption | (simp only [wI] at *; omega)) (Nat.le_of_ble_eq_true rfl) rfl rfl ?_)
   intro w43 hB44 hO45
   have hO45z := hO45.size
   refine SeqR.done (bn (tn (CW.region (sd rfl (yl_move rfl rfl (sd rfl (yl_inc rfl rfl rfl (by omega) (sd rfl (yl_assign rfl rfl (dn ?_))))))))))
   have hB46 : B_l_toIntS_0 p_a k11 (x19) = .cont ((x19.set k11 (p_a.getD k11 d_Int))) := by simp only [B_l_toIntS_0, cL]
   exact ⟨p_a.length - (k11 + 1), by omega, k11 + 1, (x19.set k11 (p_a.getD k11 d_Int)), rfl, hlt38, (by omega), rfl, rfl, rfl, (RdS.only good_Int hf34 hO45 (by simp only [Iv]; omega)), hB44, (Below.only hf36 hO45 (by omega)), (loopM.cont hlt38 hB46).symm.trans hI29⟩
  ·refine CW.seq (CW.seq (CW.region (sd rfl (yl_move rfl rfl (sd rfl (yl_move rfl rfl (sd rfl (yl_len un46 rfl rfl (sd rfl (yl_lss rfl rfl rfl (dn ?_)))))))))))
   refine CW.cond_f rfl (lt_f hlt38) (CW.exit (tx (tx ?_)))
   have hL49 : loopM (B_l_toIntS_0 p_a) (p_a.length - 0) 0 ((List.replicate p_a.length d_Int)) = .done (x19) := hI29.symm.trans (loopM.stop hlt38)
   refine bx (tn (CW.seq (CW.region (sd rfl (yl_move rfl rfl (sd rfl (yl_assign rfl rfl (dn (CW.ret ?_)))))))))
   refine rr rfl (.cons rfl .nil) ?_
   have hM50 : p_a = (x19) := (to_IntS _).symm.trans <| by simp only [l_toIntS, hL49, cL]
   subst hM50
   exact ⟨(some ⟨b4, 0, none⟩), p_a.length, b4, (b4 + 1), rfl, hf35, (by omega), hf36⟩
theorem c_l_toShift {A1 : Option Addr} {c1 : Nat} {A2 : Option Addr} {c2 : Nat} {A3 : Option Addr} {c3 : Nat} {w : World} (p_a : DShift) (h1 : RdS w (Iv 0 w.heap.size) R_Table 3 A1 p_a.Ways.length c1 p_a.Ways) (h2 : RdS w (Iv 0 w.heap.size) (RF e_Int) 1 A2 p_a.At.length c2 p_a.At) (h3 : RdS w (Iv 0 w.heap.size) (RF e_Write) 3 A3 p_a.Store.length c3 p_a.Store) (o4 : ok_Shift p_a) : Cal Tryz.prog 47 #[.agg #[.string (bs (p_a.Name)), .slice A1 p_a.Ways.length c1, .slice A2 p_a.At.length c2, .slice A3 p_a.Store.length c3]] w fun v w' => ∃ A_1 c_1 lo_1 hi_1 A_2 c_2 lo_2 hi_2 A_3 c_3 lo_3 hi_3, v = .agg #[.string (bs (p_a.Name)), .slice A_1 p_a.Ways.length c_1, .slice A_2 p_a.At.length c_2, .slice A_3 p_a.Store.length c_3] ∧ OwnL w' lo_1 hi_1 34 3 R_Table A_1 p_a.Ways.length c_1 p_a.Ways ∧ OwnL w' lo_2 hi_2 3 1 (RF e_Int) A_2 p_a.At.length c_2 p_a.At ∧ OwnL w' lo_3 hi_3 75 3 (RF e_Write) A_3 p_a.Store.length c_3 p_a.Store ∧ (w.heap.size ≤ lo_1 ∧ lo_1 ≤ hi_1 ∧ hi_1 ≤ w'.heap.size) ∧ (w.heap.size ≤ lo_2 ∧ lo_2 ≤ hi_2 ∧ hi_2 ≤ w'.heap.size) ∧ (w.heap.size ≤ lo_3 ∧ lo_3 ≤ hi_3 ∧ hi_3 ≤ w'.heap.size) ∧ (hi_1 ≤ lo_2 ∨ hi_2 ≤ lo_1) ∧ (hi_1 ≤ lo_3 ∨ hi_3 ≤ lo_1) ∧ (hi_2 ≤ lo_3 ∨ hi_3 ≤ lo_2) ∧ Ex w w' := by
 have hol5 : p_a.Name.length ≤ 1073741824 := o4.1
 have hol6 := o4.2.1.1
 have hol7 := o4.2.2.1.1
 have hol8 := o4.2.2.2.1
 refine Cal.of func47 rfl ntmps47 rfl (CW.seq (CW.region (sd rfl (yl_box rfl rfl rfl ?_))))
 intro b9 w10 hs11 hz12 hB13 hE14
 refine sd rfl (yl_alloc ty58 (cs := [.string (bs (([] : Str))), .slice none 0 0, .slice none 0 0, .slice none 0 0]) rfl rfl ?_)
 intro b15 w16 hs17 hz18 hB19 hE20
 refine dn (CW.seq (CW.region (sd rfl (yl_alloc ty58 (cs := [.string (bs (([] : Str))), .slice none 0 0, .slice none 0 0, .slice none 0 0]) rfl rfl ?_))))
 intro b21 w22 hs23 hz24 hB25 hE26
 refine dn (CW.seq (CW.region (sd rfl (yl_fieldAddr fd48_0 rfl rfl ?_))))
 have q28 := Box.ex (Box.ex hB13 hE20) hE26
 refine sd rfl (yl_load1 ty9 rfl rfl ((q28.cell 0).trans rfl) (sd rfl (yl_fieldAddr fd58_0 rfl rfl (SeqR.u rfl rfl (yl_store (vs := [.string (bs (p_a.Name))]) ty9 rfl rfl rfl rfl rfl rfl hB25 (Nat.le_of_ble_eq_true rfl) ?_)))))
 intro w29 hB30 hO31
 have hB30 : Box w29 b21 58 [.string (bs (p_a.Name)), .slice none 0 0, .slice none 0 0, .slice none 0 0] := hB30
 have hO31z := hO31.size
 refine dn (CW.seq (CW.region (sd rfl (yl_fieldAddr fd48_1 rfl rfl ?_))))
 have q32 := Box.only q28 hO31 (by omega)
 refine sd rfl (yl_load1 ty45 rfl rfl ((q32.cell 1).trans rfl) (sd rfl (yl_call en82 rfl (oc rfl oz) (Cal.mono (c_l_toTableS p_a.Ways (RdS.up (RdS.only good_Table (RdS.ex good_Table (RdS.ex good_Table (RdS.ex good_Table h1 hE14) hE20) hE26) hO31 (by simp only [Iv]; omega)) good_Table) o4.2.1) ?_))))
 rintro v39 w37 ⟨A38, c38, lo38, hi38, rfl, h38, hrn41, hE40⟩
 have hE40z := Ex.size hE40
 refine sd rfl (yl_fieldAddr fd58_1 rfl rfl (SeqR.u rfl rfl (yl_store (vs := [.slice A38 p_a.Ways.length c38]) ty56 rfl rfl rfl rfl rfl rfl (Box.ex hB30 hE40) (Nat.le_of_ble_eq_true rfl) ?_)))
 intro w43 hB44 hO45
 have hB44 : Box w43 b21 58 [.string (bs (p_a.Name)), .slice A38 p_a.Ways.length c38, .slice none 0 0, .slice none 0 0] := hB44
 have hO45z := hO45.size
 refine dn (CW.seq (CW.region (sd rfl (yl_fieldAddr fd48_2 rfl rfl ?_))))
 have q47 := Box.only (Box.ex q32 hE40) hO45 (by omega)
 refine sd rfl (yl_load1 ty46 rfl rfl ((q47.cell 2).trans rfl) (sd rfl (yl_call en83 rfl (oc rfl oz) (Cal.mono (c_l_toIntS p_a.At (RdS.up (RdS.only good_Int (RdS.ex good_Int (RdS.only good_Int (RdS.ex good_Int (RdS.ex good_Int (RdS.ex good_Int h2 hE14) hE20) hE26) hO31 (by simp only [Iv]; omega)) hE40) hO45 (by simp only [Iv]; omega)) good_Int) o4.2.2.1) ?_))))
 rintro v56 w54 ⟨A55, c55, lo55, hi55, rfl, h55, hrn58, hE57⟩
 have hE57z := Ex.size hE57
 refine sd rfl (yl_fieldAddr fd58_2 rfl rfl (SeqR.u rfl rfl (yl_store (vs := [.slice A55 p_a.At.length c55]) ty46 rfl rfl rfl rfl rfl rfl (Box.ex hB44 hE57) (Nat.le_of_ble_eq_true rfl) ?_)))
 intro w60 hB61 hO62
 have hB61 : Box w60 b21 58 [.string (bs (p_a.Name)), .slice A38 p_a.Ways.length c38, .slice A55 p_a.At.length c55, .slice none 0 0] := hB61
 have hO62z := hO62.size
 refine dn (CW.seq (CW.region (sd rfl (yl_fieldAddr fd48_3 rfl rfl (sd rfl (yl_load1 ty26 rfl rfl (((Box.only (Box.ex q47 hE57) hO62 (by omega)).cell 3).trans rfl) (sd rfl (yl_call en9 rfl (oc rfl oz) (Cal.mono (c_l_toWriteS p_a.Store (RdS.up (RdS.only good_Write (RdS.ex good_Write (RdS.only good_Write (RdS.ex good_Write (RdS.only good_Write (RdS.ex good_Write (RdS.ex good_Write (RdS.ex good_Write h3 hE14) hE20) hE26) hO31 (by simp only [Iv]; omega)) hE40) hO45 (by simp only [Iv]; omega)) hE57) hO62 (by simp only [Iv]; omega)) good_Write) o4.2.2.2) ?_)))))))))
 rintro v75 w73 ⟨A74, c74, lo74, hi74, rfl, h74, hrn77, hE76⟩
 have hE76z := Ex.size hE76
 refine sd rfl (yl_fieldAddr fd58_3 rfl rfl (SeqR.u rfl rfl (yl_store (vs := [.slice A74 p_a.Store.length c74]) ty36 rfl rfl rfl rfl rfl rfl (Box.ex hB61 hE76) (Nat.le_of_ble_eq_true rfl) ?_)))
 intro w79 hB80 hO81
 have hB80 : Box w79 b21 58 [.string (bs (p_a.Name)), .slice A38 p_a.Ways.length c38, .slice A55 p_a.At.length c55, .slice A74 p_a.Store.length c74] := hB80
 have hO81z := hO81.size
 refine dn (CW.seq (CW.region (sd rfl (yl_loadN ty58 rfl rfl (hB80.cells (n := 4) rfl) rfl (SeqR.u rfl rfl (yl_store (vs := [.string (bs (p_a.Name)), .slice A38 p_a.Ways.length c38, .slice A55 p_a.At.length c55, .slice A74 p_a.Store.length c74]) ty58 rfl rfl rfl rfl rfl rfl (Box.only (Box.ex (Box.only (Box.ex (Box.only (Box.ex (Box.only (Box.ex hB19 hE26) hO31 (by omega)) hE40) hO45 (by omega)) hE57) hO62 (by omega)) hE76) hO81 (by omega)) (Nat.le_of_ble_eq_true rfl) ?_))))))
 intro w90 hB91 hO92
 have hB91 : Box w90 b15 58 [.string (bs (p_a.Name)), .slice A38 p_a.Ways.length c38, .slice A55 p_a.At.length c55, .slice A74 p_a.Store.length c74] := hB91
 have hO92z := hO92.size
 refine dn (CW.ret (rr rfl (.cons ⟨_, rfl, run_loadN ty58 (cs := [.string (bs (p_a.Name)), .slice A38 p_a.Ways.length c38, .slice A55 p_a.At.length c55, .slice A74 p_a.Store.length c74]) rfl (hB91.cells (n := 4) rfl)⟩ .nil) ?_))
 have hM93 : p_a = (p_a) := (to_Shift _).symm.trans <| by simp only [l_toShift, cL]
 rw [hM93]
 exact ⟨A38, c38, lo38, hi38, A55, c55, lo55, hi55, A74, c74, lo74, hi74, rfl, (OwnL.only good_Table (OwnL.only good_Table (OwnL.ex good_Table (OwnL.only good_Table (OwnL.ex good_Table (OwnL.only good_Table h38 hO45 (by omega)) hE57) hO62 (by omega)) hE76) hO81 (by omega)) hO92 (by omega)), (OwnL.only good_Int (OwnL.only good_Int (OwnL.ex good_Int (OwnL.only good_Int h55 hO62 (by omega)) hE76) hO81 (by omega)) hO92 (by omega)), (OwnL.only good_Write (OwnL.only good_Write h74 hO81 (by omega)) hO92 (by omega)), (by omega), (by omega), (by omega), (by omega), (by omega), (by omega), (Below.only (Below.only (Ex.trans (Below.only (Ex.trans (Below.only (Ex.trans (Below.only (Ex.trans (Ex.trans (Ex.trans (Ex.refl w) hE14) hE20) hE26) hO31 (by omega)) hE40) hO45 (by omega)) hE57) hO62 (by omega)) hE76) hO81 (by omega)) hO92 (by omega))⟩
theorem c_l_toFill {w : World} (p_a : DFill) (o1 : ok_Fill p_a) : Cal Tryz.prog 48 #[.agg #[.string (bs (p_a.Last)), .bool (p_a.Over)]] w fun v w' => v = .agg #[.string (bs (p_a.Last)), .bool (p_a.Over)] ∧ Ex w w' := by
 have hol2 : p_a.Last.length ≤ 1073741824 := o1
 refine Cal.of func48 rfl ntmps48 rfl (CW.seq (CW.region (sd rfl (yl_box rfl rfl rfl ?_))))
 intro b3 w4 hs5 hz6 hB7 hE8
 refine sd rfl (yl_alloc ty59 (cs := [.string (bs (([] : Str))), .bool (false)]) rfl rfl ?_)
 intro b9 w10 hs11 hz12 hB13 hE14
 refine dn (CW.seq (CW.region (sd rfl (yl_alloc ty59 (cs := [.string (bs (([] : Str))), .bool (false)]) rfl rfl ?_))))
 intro b15 w16 hs17 hz18 hB19 hE20
 refine dn (CW.seq (CW.region (sd rfl (yl_fieldAddr fd50_0 rfl rfl ?_))))
 have q22 := Box.ex (Box.ex hB7 hE14) hE20
 refine sd rfl (yl_load1 ty9 rfl rfl ((q22.cell 0).trans rfl) (sd rfl (yl_fieldAddr fd59_0 rfl rfl (SeqR.u rfl rfl (yl_store (vs := [.string (bs (p_a.Last))]) ty9 rfl rfl rfl rfl rfl rfl hB19 (Nat.le_of_ble_eq_true rfl) ?_)))))
 intro w23 hB24 hO25
 have hB24 : Box w23 b15 59 [.string (bs (p_a.Last)), .bool (false)] := hB24
 have hO25z := hO25.size
 refine dn (CW.seq (CW.region (sd rfl (yl_fieldAddr fd50_1 rfl rfl (sd rfl (yl_load1 ty4 rfl rfl (((Box.only q22 hO25 (by omega)).cell 1).trans rfl) (sd rfl (yl_fieldAddr fd59_1 rfl rfl (SeqR.u rfl rfl (yl_store (vs := [.bool (p_a.Over)]) ty4 rfl rfl rfl rfl rfl rfl hB24 (Nat.le_of_ble_eq_true rfl) ?_))))))))))
 intro w27 hB28 hO29
 have hB28 : Box w27 b15 59 [.string (bs (p_a.Last)), .bool (p_a.Over)] := hB28
 have hO29z := hO29.size
 refine dn (CW.seq (CW.region (sd rfl (yl_loadN ty59 rfl rfl (hB28.cells (n := 2) rfl) rfl (SeqR.u rfl rfl (yl_store (vs := [.string (bs (p_a.Last)), .bool (p_a.Over)]) ty59 rfl rfl rfl rfl rfl rfl (Box.only (Box.only (Box.ex hB13 hE20) hO25 (by omega)) hO29 (by omega)) (Nat.le_of_ble_eq_true rfl) ?_))))))
 intro w33 hB34 hO35
 have hB34 : Box w33 b9 59 [.string (bs (p_a.Last)), .bool (p_a.Over)] := hB34
 have hO35z := hO35.size
 refine dn (CW.ret (rr rfl (.cons ⟨_, rfl, run_loadN ty59 (cs := [.string (bs (p_a.Last)), .bool (p_a.Over)]) rfl (hB34.cells (n := 2) rfl)⟩ .nil) ?_))
 have hM36 : p_a = (p_a) := (to_Fill _).symm.trans <| by simp only [l_toFill, cL]
 rw [hM36]
 exact ⟨rfl, (Below.only (Below.only (Below.only (Ex.trans (Ex.trans (Ex.trans (Ex.refl w) hE8) hE14) hE20) hO25 (by omega)) hO29 (by omega)) hO35 (by omega))⟩
theorem c_l_toWork {A1 : Option Addr} {c1 : Nat} {A2 : Option Addr} {c2 : Nat} {A3 : Option Addr} {c3 : Nat} {w : World} (p_a : DWork) (h1 : RdS w (Iv 0 w.heap.size) R_Table 3 A1 p_a.Shift.Ways.length c1 p_a.Shift.Ways) (h2 : RdS w (Iv 0 w.heap.size) (RF e_Int) 1 A2 p_a.Shift.At.length c2 p_a.Shift.At) (h3 : RdS w (Iv 0 w.heap.size) (RF e_Write) 3 A3 p_a.Shift.Store.length c3 p_a.Shift.Store) (o4 : ok_Work p_a) : Cal Tryz.prog 20 #[.agg #[.string (bs (p_a.Shift.Name)), .slice A1 p_a.Shift.Ways.length c1, .slice A2 p_a.Shift.At.length c2, .slice A3 p_a.Shift.Store.length c3, .string (bs (p_a.Up.Last)), .bool (p_a.Up.Over), .string (bs (p_a.Down.Last)), .bool (p_a.Down.Over)]] w fun v w' => ∃ A_1 c_1 lo_1 hi_1 A_2 c_2 lo_2 hi_2 A_3 c_3 lo_3 hi_3, v = .agg #[.string (bs (p_a.Shift.Name)), .slice A_1 p_a.Shift.Ways.length c_1, .slice A_2 p_a.Shift.At.length c_2, .slice A_3 p_a.Shift.Store.length c_3, .string (bs (p_a.Up.Last)), .bool (p_a.Up.Over), .string (bs (p_a.Down.Last)), .bool (p_a.Down.Over)] ∧ OwnL w' lo_1 hi_1 34 3 R_Table A_1 p_a.Shift.Ways.length c_1 p_a.Shift.Ways ∧ OwnL w' lo_2 hi_2 3 1 (RF e_Int) A_2 p_a.Shift.At.length c_2 p_a.Shift.At ∧ OwnL w' lo_3 hi_3 75 3 (RF e_Write) A_3 p_a.Shift.Store.length c_3 p_a.Shift.Store ∧ (w.heap.size ≤ lo_1 ∧ lo_1 ≤ hi_1 ∧ hi_1 ≤ w'.heap.size) ∧ (w.heap.size ≤ lo_2 ∧ lo_2 ≤ hi_2 ∧ hi_2 ≤ w'.heap.size) ∧ (w.heap.size ≤ lo_3 ∧ lo_3 ≤ hi_3 ∧ hi_3 ≤ w'.heap.size) ∧ (hi_1 ≤ lo_2 ∨ hi_2 ≤ lo_1) ∧ (hi_1 ≤ lo_3 ∨ hi_3 ≤ lo_1) ∧ (hi_2 ≤ lo_3 ∨ hi_3 ≤ lo_2) ∧ Ex w w' := by
 have hol5 : p_a.Shift.Name.length ≤ 1073741824 := o4.1.1
 have hol6 := o4.1.2.1.1
 have hol7 := o4.1.2.2.1.1
 have hol8 := o4.1.2.2.2.1
 have hol9 : p_a.Up.Last.length ≤ 1073741824 := o4.2.1
 have hol10 : p_a.Down.Last.length ≤ 1073741824 := o4.2.2
 refine Cal.of func20 rfl ntmps20 rfl (CW.seq (CW.region (sd rfl (yl_box rfl rfl rfl ?_))))
 intro b11 w12 hs13 hz14 hB15 hE16
 refine sd rfl (yl_alloc ty61 (cs := [.string (bs (([] : Str))), .slice none 0 0, .slice none 0 0, .slice none 0 0, .string (bs (([] : Str))), .bool (false), .string (bs (([] : Str))), .bool (false)]) rfl rfl ?_)
 intro b17 w18 hs19 hz20 hB21 hE22
 refine dn (CW.seq (CW.region (sd rfl (yl_alloc ty61 (cs := [.string (bs (([] : Str))), .slice none 0 0, .slice none 0 0, .slice none 0 0, .string (bs (([] : Str))), .bool (false), .string (bs (([] : Str))), .bool (false)]) rfl rfl ?_))))
 intro b23 w24 hs25 hz26 hB27 hE28
 refine dn (CW.seq (CW.region (sd rfl (yl_fieldAddr fd52_0 rfl rfl ?_))))
 have q30 := Box.ex (Box.ex hB15 hE22) hE28
 refine sd rfl (yl_loadN ty48 rfl rfl (q30.cells (n := 4) rfl) rfl (sd rfl (yl_call en47 rfl (oc rfl oz) (Cal.mono (c_l_toShift p_a.Shift (RdS.up (RdS.ex good_Table (RdS.ex good_Table (RdS.ex good_Table h1 hE16) hE22) hE28) good_Table) (RdS.up (RdS.ex good_Int (RdS.ex good_Int (RdS.ex good_Int h2 hE16) hE22) hE28) good_Int) (RdS.up (RdS.ex good_Write (RdS.ex good_Write (RdS.ex good_Write h3 hE16) hE22) hE28) good_Write) o4.1) ?_))))
 rintro v44 w40 ⟨A41, c41, lo41, hi41, A42, c42, lo42, hi42, A43, c43, lo43, hi43, rfl, h41, h42, h43, hrn46, hrn47, hrn48, hrn49, hrn50, hrn51, hE45⟩
 have hE45z := Ex.size hE45
 refine sd rfl (yl_fieldAddr fd61_0 rfl rfl (SeqR.u rfl rfl (yl_store (vs := [.string (bs (p_a.Shift.Name)), .slice A41 p_a.Shift.Ways.length c41, .slice A42 p_a.Shift.At.length c42, .slice A43 p_a.Shift.Store.length c43]) ty58 rfl rfl rfl rfl rfl rfl (Box.ex hB27 hE45) (Nat.le_of_ble_eq_true rfl) ?_)))
 intro w53 hB54 hO55
 have hB54 : Box w53 b23 61 [.string (bs (p_a.Shift.Name)), .slice A41 p_a.Shift.Ways.length c41, .slice A42 p_a.Shift.At.length c42, .slice A43 p_a.Shift.Store.length c43, .string (bs (([] : Str))), .bool (false), .string (bs (([] : Str))), .bool (false)] := hB54
 have hO55z := hO55.size
 refine dn (CW.seq (CW.region (sd rfl (yl_fieldAddr fd52_1 rfl rfl ?_))))
 have q57 := Box.only (Box.ex q30 hE45) hO55 (by omega)
 refine sd rfl (yl_loadN ty50 rfl rfl (q57.cells (n := 2) rfl) rfl (sd rfl (yl_call en48 rfl (oc rfl oz) (Cal.mono (c_l_toFill p_a.Up o4.2.1) ?_))))
 rintro v59 w58 ⟨rfl, hE60⟩
 have hE60z := Ex.size hE60
 refine sd rfl (yl_fieldAddr fd61_1 rfl rfl (SeqR.u rfl rfl (yl_store (vs := [.string (bs (p_a.Up.Last)), .bool (p_a.Up.Over)]) ty59 rfl rfl rfl rfl rfl rfl (Box.ex hB54 hE60) (Nat.le_of_ble_eq_true rfl) ?_)))
 intro w62 hB63 hO64
 have hB63 : Box w62 b23 61 [.string (bs (p_a.Shift.Name)), .slice A41 p_a.Shift.Ways.length c41, .slice A42 p_a.Shift.At.length c42, .slice A43 p_a.Shift.Store.length c43, .string (bs (p_a.Up.Last)), .bool (p_a.Up.Over), .string (bs (([] : Str))), .bool (false)] := hB63
 have hO64z := hO64.size
 refine dn (CW.seq (CW.region (sd rfl (yl_fieldAddr fd52_2 rfl rfl (sd rfl (yl_loadN ty50 rfl rfl ((Box.only (Box.ex q57 hE60) hO64 (by omega)).cells (n := 2) rfl) rfl (sd rfl (yl_call en48 rfl (oc rfl oz) (Cal.mono (c_l_toFill p_a.Down o4.2.2) ?_)))))))))
 rintro v68 w67 ⟨rfl, hE69⟩
 have hE69z := Ex.size hE69
 refine sd rfl (yl_fieldAddr fd61_2 rfl rfl (SeqR.u rfl rfl (yl_store (vs := [.string (bs (p_a.Down.Last)), .bool (p_a.Down.Over)]) ty59 rfl rfl rfl rfl rfl rfl (Box.ex hB63 hE69) (Nat.le_of_ble_eq_true rfl) ?_)))
 intro w71 hB72 hO73
 have hB72 : Box w71 b23 61 [.string (bs (p_a.Shift.Name)), .slice A41 p_a.Shift.Ways.length c41, .slice A42 p_a.Shift.At.length c42, .slice A43 p_a.Shift.Store.length c43, .string (bs (p_a.Up.Last)), .bool (p_a.Up.Over), .string (bs (p_a.Down.Last)), .bool (p_a.Down.Over)] := hB72
 have hO73z := hO73.size
 refine dn (CW.seq (CW.region (sd rfl (yl_loadN ty61 rfl rfl (hB72.cells (n := 8) rfl) rfl (SeqR.u rfl rfl (yl_store (vs := [.string (bs (p_a.Shift.Name)), .slice A41 p_a.Shift.Ways.length c41, .slice A42 p_a.Shift.At.length c42, .slice A43 p_a.Shift.Store.length c43, .string (bs (p_a.Up.Last)), .bool (p_a.Up.Over), .string (bs (p_a.Down.Last)), .bool (p_a.Down.Over)]) ty61 rfl rfl rfl rfl rfl rfl (Box.only (Box.ex (Box.only (Box.ex (Box.only (Box.ex (Box.ex hB21 hE28) hE45) hO55 (by omega)) hE60) hO64 (by omega)) hE69) hO73 (by omega)) (Nat.le_of_ble_eq_true rfl) ?_))))))
 intro w81 hB82 hO83
 have hB82 : Box w81 b17 61 [.string (bs (p_a.Shift.Name)), .slice A41 p_a.Shift.Ways.length c41, .slice A42 p_a.Shift.At.length c42, .slice A43 p_a.Shift.Store.length c43, .string (bs (p_a.Up.Last)), .bool (p_a.Up.Over), .string (bs (p_a.Down.Last)), .bool (p_a.Down.Over)] := hB82
 have hO83z := hO83.size
 refine dn (CW.ret (rr rfl (.cons ⟨_, rfl, run_loadN ty61 (cs := [.string (bs (p_a.Shift.Name)), .slice A41 p_a.Shift.Ways.length c41, .slice A42 p_a.Shift.At.length c42, .slice A43 p_a.Shift.Store.length c43, .string (bs (p_a.Up.Last)), .bool (p_a.Up.Over), .string (bs (p_a.Down.Last)), .bool (p_a.Down.Over)]) rfl (hB82.cells (n := 8) rfl)⟩ .nil) ?_))
 have hM84 : p_a = (p_a) := (to_Work _).symm.trans <| by simp only [l_toWork, cL]
 rw [hM84]
 exact ⟨A41, c41, lo41, hi41, A42, c42, lo42, hi42, A43, c43, lo43, hi43, rfl, (OwnL.only good_Table (OwnL.only good_Table (OwnL.ex good_Table (OwnL.only good_Table (OwnL.ex good_Table (OwnL.only good_Table h41 hO55 (by omega)) hE60) hO64 (by omega)) hE69) hO73 (by omega)) hO83 (by omega)), (OwnL.only good_Int (OwnL.only good_Int (OwnL.ex good_Int (OwnL.only good_Int (OwnL.ex good_Int (OwnL.only good_Int h42 hO55 (by omega)) hE60) hO64 (by omega)) hE69) hO73 (by omega)) hO83 (by omega)), (OwnL.only good_Write (OwnL.only good_Write (OwnL.ex good_Write (OwnL.only good_Write (OwnL.ex good_Write (OwnL.only good_Write h43 hO55 (by omega)) hE60) hO64 (by omega)) hE69) hO73 (by omega)) hO83 (by omega)), (by omega), (by omega), (by omega), (by omega), (by omega), (by omega), (Below.only (Below.only (Ex.trans (Below.only (Ex.trans (Below.only (Ex.trans (Ex.trans (Ex.trans (Ex.trans (Ex.refl w) hE16) hE22) hE28) hE45) hO55 (by omega)) hE60) hO64 (by omega)) hE69) hO73 (by omega)) hO83 (by omega))⟩
theorem c_i_Table_rowWrite {A1 : Option Addr} {c1 : Nat} {A2 : Option Addr} {c2 : Nat} {A4 : Option Addr} {c4 : Nat} {w : World} (p_t : DTable) (p_r : DRow) (h1 : RdS w (Iv 0 w.heap.size) (RF e_Str) 1 A1 p_t.Cols.length c1 p_t.Cols) (h2 : RdS w (Iv 0 w.heap.size) (RF e_Idx) 3 A2 p_t.Idxs.length c2 p_t.Idxs) (h4 : RdS w (Iv 0 w.heap.size) (RF e_Str) 1 A4 p_r.Vals.length c4 p_r.Vals) (o3 : ok_Table p_t) (o5 : ok_Row p_r) (pre0 : 0 < p_r.Vals.length) (pre1 : p_r.Vals.length ≤ 4) (pre2 : rowShort p_r) : Cal Tryz.prog 53 #[.agg #[.string (bs (p_t.Name)), .slice A1 p_t.Cols.length c1, .slice A2 p_t.Idxs.length c2], .agg #[.slice A4 p_r.Vals.length c4]] w fun v w' => v = .agg #[.string (bs ((i_Table_rowWrite p_t p_r).Key)), .string (bs ((i_Table_rowWrite p_t p_r).Val)), .bool ((i_Table_rowWrite p_t p_r).Gone)] ∧ Ex w w' := by
 have hol6 : p_t.Name.length ≤ 1073741824 := o3.1
 have hol7 := o3.2.1.1
 have hol8 := o3.2.2.1
 have hol9 := o5.1
 refine Cal.of func53 rfl ntmps53 rfl (CW.seq (CW.region (sd rfl (yl_box rfl rfl rfl ?_))))
 intro b10 w11 hs12 hz13 hB14 hE15
 refine sd rfl (yl_box rfl rfl rfl ?_)
 intro b16 w17 hs18 hz19 hB20 hE21
 refine sd rfl (yl_alloc ty75 (cs := [.string (bs (([] : Str))), .string (bs (([] : Str))), .bool (false)]) rfl rfl ?_)
 intro b22 w23 hs24 hz25 hB26 hE27
 refine dn (CW.seq ?_)
 have hol30 : p_t.Name.length ≤ 1073741824 := o3.1
 have q31 := Box.ex hB20 hE27
 have q34 := RdS.ex good_Str (RdS.ex good_Str (RdS.ex good_Str h4 hE15) hE21) hE27
 obtain ⟨eb35, eo35, _, eA35, _, ebl35, _, eR35, eC35⟩ := RdS.aD q34 d_Str (i := 0)
 obtain rfl := eR35
 have eC35 : Cells w23 eb35 (eo35 + 0 * 1) [.string (bs ((p_r.Vals.getD 0 d_Str)))] := eC35
 have hol36 : p_t.Name.length ≤ 1073741824 := o3.1
 have hol37 : (p_r.Vals.getD 0 d_Str).length ≤ 1073741824 := (okL.getD o5 ok_d_Str _)
 obtain ⟨A38, c39, he42, h41⟩ := RdS.sl (RdS.drop q34 (k := 1) (by omega))
 have hrc43 := (q34).2.1
 refine CW.drawsI 12 (vgetI [DetI (.pointer (some ⟨b10, 0 + 0, none⟩)), DetI (.string (bs (p_t.Name))), DetI (.string (bs (p_t.Name ++ ([47] : Str)))), DetI (.pointer (some ⟨b16, 0 + 0, none⟩)), DetI (.slice A4 p_r.Vals.length c4), DetI (.pointer (some ⟨eb35, eo35 + 0 * 1, none⟩)), DetI (.string (bs ((p_r.Vals.getD 0 d_Str)))), DetI (.string (bs ((p_t.Name ++ ([47] : Str)) ++ (p_r.Vals.getD 0 d_Str)))), DetI (.pointer (some ⟨b16, 0 + 0, none⟩)), DetI (.slice A4 p_r.Vals.length c4), fun lo hi v wq => ∃ A38 c39, v = .slice A38 ((p_r.Vals.drop 1).length) c39 ∧ RdS wq (Iv 0 w.heap.size) (RF e_Str) 1 A38 (p_r.Vals.drop 1).length c39 (p_r.Vals.drop 1), fun lo hi v wq => v = .string (bs ((g_strings_Join (p_r.Vals.drop 1) ([44] : Str)))) ∧ okS (g_strings_Join (p_r.Vals.drop 1) ([44] : Str))]) Tryz.follows rfl rfl rfl rfl rfl rfl (vgetI_stable ⟨StableI.det _, StableI.det _, StableI.det _, StableI.det _, StableI.det _, StableI.det _, StableI.det _, StableI.det _, StableI.det _, StableI.det _, (fun _ _ _ _ _ ⟨A38, c39, hv, h44⟩ e => ⟨A38, c39, hv, RdS.ex good_Str h44 e⟩), (fun _ _ _ _ _ ⟨hv, ho46⟩ e => ⟨hv, ho46⟩), trivial⟩) ⟨?_, ?_, ?_, ?_, ?_, ?_, ?_, ?_, ?_, ?_, ?_, ?_, trivial⟩ ?_
 ·exact oI rfl fun h => yl_fieldAddr fd34_0 rfl (h.old 2 _ rfl rfl) kI
 ·exact oI rfl fun h => yl_load1 ty9 rfl (h.dt 0 5 rfl rfl rfl) (((Box.ex (Box.ex (Box.ex hB14 hE21) hE27) h.ex).cell 0).trans rfl) kI
 ·intro L58 w59 hi60
  have hE61 := hi60.ex
  have hE61z := Ex.size hE61
  have hol63 : p_t.Name.length ≤ 1073741824 := o3.1
  exact os rfl ((yl_sadd (a := p_t.Name) (b := ([47] : Str)) rfl (hi60.dt 1 6 rfl rfl rfl) rfl (by first | omega | (simp only [List.length_append, List.length_cons, List.length_nil, List.length_take, List.length_drop, toS_length]; omega)) kI))
 ·exact oI rfl fun h => yl_fieldAddr fd80_0 rfl (h.old 3 _ rfl rfl) kI
 ·exact oI rfl fun h => yl_load1 ty22 rfl (h.dt 3 8 rfl rfl rfl) (((Box.ex q31 h.ex).cell 0).trans rfl) kI
 ·intro L75 w76 hi77
  have hE78 := hi77.ex
  have hE78z := Ex.size hE78
  exact os rfl ((yl_ixN un22 ty9 rfl (hi77.dt 4 9 rfl rfl rfl) rfl eA35 kI))
 ·exact oI rfl fun h => yl_load1 ty9 rfl (h.dt 5 10 rfl rfl rfl) ((Cells.ex eC35 h.ex) 0 _ rfl) kI
 ·intro L86 w87 hi88
  have hE89 := hi88.ex
  have hE89z := Ex.size hE89
  have hol92 : p_t.Name.length ≤ 1073741824 := o3.1
  have hol93 : (p_r.Vals.getD 0 d_Str).length ≤ 1073741824 := (okL.getD o5 ok_d_Str _)
  exact os rfl ((yl_sadd (a := (p_t.Name ++ ([47] : Str))) (b := (p_r.Vals.getD 0 d_Str)) rfl (hi88.dt 2 7 rfl rfl rfl) (hi88.dt 6 11 rfl rfl rfl) (by first | omega | (simp only [List.length_append, List.length_cons, List.length_nil, List.length_take, List.length_drop, toS_length]; omega)) kI))
 ·exact oI rfl fun h => yl_fieldAddr fd80_0 rfl (h.old 3 _ rfl rfl) kI
 ·exact oI rfl fun h => yl_load1 ty22 rfl (h.dt 8 13 rfl rfl rfl) (((Box.ex q31 h.ex).cell 0).trans rfl) kI
 ·intro L105 w106 hi107
  have hE108 := hi107.ex
  have hE108z := Ex.size hE108
  have q110 := RdS.ex good_Str q34 hE108
  obtain ⟨A111, c112, he115, h114⟩ := RdS.sl (RdS.drop q110 (k := 1) (by omega))
  have hrc116 := (q110).2.1
  exact os rfl ((yl_sliceR (kh := .i64) (l := 1) (h := p_r.Vals.length) un22 ty9 rfl (hi107.dt 9 14 rfl rfl rfl) (.inr ⟨_, rfl, rfl⟩) (.inl ⟨rfl, rfl⟩) (by omega) (by omega) he115 ⟨fun _ _ => ⟨A111, c112, rfl, h114⟩, rfl⟩))
 ·intro L117 w118 hi119
  obtain ⟨lo122, hh123, _, hx121, hr124, hr125, hr126, A38_127, c39_128, rfl, h129⟩ := hi119.dep 10 15 rfl rfl
  refine OpR.op' rfl (yl_call en88 rfl (oc hx121 (oc rfl oz)) (Cal.mono (c_g_strings_Join (p_r.Vals.drop 1) ([44] : Str) (RdS.up h129 good_Str) (okL.drop o5 _) (okS.lit rfl) (join_drop pre1 pre2)) ?_))
  rintro v132 w130 ⟨rfl, ho131, hE133⟩
  exact ⟨⟨rfl, ho131⟩, hE133⟩
 ·intro fl137 fh138 L134 w135 hp136
  have hE139 := hp136.ex
  have hE139z := Ex.size hE139
  have hx140 := hp136.old 4 _ rfl rfl
  obtain ⟨_, hx142, rfl, h143⟩ := hp136.new 11 16 rfl rfl
  refine sd rfl (yl_build (cs := [.string (bs ((p_t.Name ++ ([47] : Str)) ++ (p_r.Vals.getD 0 d_Str))), .string (bs ((g_strings_Join (p_r.Vals.drop 1) ([44] : Str)))), .bool (false)]) rfl (oc (hp136.nt 7 12 rfl rfl rfl) (oc hx142 oz)) (by kernel_rfl) (SeqR.u rfl rfl (yl_store (vs := [.string (bs ((p_t.Name ++ ([47] : Str)) ++ (p_r.Vals.getD 0 d_Str))), .string (bs ((g_strings_Join (p_r.Vals.drop 1) ([44] : Str)))), .bool (false)]) ty75 rfl hx140 rfl rfl rfl rfl (Box.ex hB26 hE139) (Nat.le_of_ble_eq_true rfl) ?_)))
  intro w145 hB146 hO147
  have hB146 : Box w145 b22 75 [.string (bs ((p_t.Name ++ ([47] : Str)) ++ (p_r.Vals.getD 0 d_Str))), .string (bs ((g_strings_Join (p_r.Vals.drop 1) ([44] : Str)))), .bool (false)] := hB146
  have hO147z := hO147.size
  refine dn (CW.sub (Sub.cons (d := 4) hx140 (Sub.nil _)) (CW.ret (rr rfl (.cons ⟨_, rfl, run_loadN ty75 (cs := [.string (bs ((p_t.Name ++ ([47] : Str)) ++ (p_r.Vals.getD 0 d_Str))), .string (bs ((g_strings_Join (p_r.Vals.drop 1) ([44] : Str)))), .bool (false)]) rfl (hB146.cells (n := 3) rfl)⟩ .nil) ?_)))
  have hM148 : (i_Table_rowWrite p_t p_r) = ((⟨(p_t.Name ++ ([47] : Str)) ++ (p_r.Vals.getD 0 d_Str), (g_strings_Join (p_r.Vals.drop 1) ([44] : Str)), false⟩ : DWrite)) := by simp only [i_Table_rowWrite, cL]
  rw [hM148]
  exact ⟨rfl, (Below.only (Ex.trans (Ex.trans (Ex.trans (Ex.trans (Ex.refl w) hE15) hE21) hE27) hE139) hO147 (by omega))⟩
theorem c_g_internal_stringslite_HasPrefix {w : World} (p_s : Str) (p_prefix : Str) (o1 : okS p_s) (o2 : okS p_prefix) : Cal Tryz.prog 149 #[.string (bs (p_s)), .string (bs (p_prefix))] w fun v w' => v = .bool ((g_internal_stringslite_HasPrefix p_s p_prefix)) ∧ Ex w w' := by
 have hol3 : p_s.length ≤ 1073741824 := o1
 have hol4 : p_prefix.length ≤ 1073741824 := o2
 refine Cal.of func149 rfl ntmps149 rfl (CW.seq (CW.region (sd rfl (yl_assign rfl rfl (dn (CW.seq (CW.region (sd rfl (yl_move rfl rfl ?_)))))))))
 refine sd rfl (yl_slen un9 (a := p_s) rfl rfl (sd rfl (yl_move rfl rfl (sd rfl (yl_slen un9 (a := p_prefix) rfl rfl (sd rfl (yl_geq rfl rfl rfl (sd rfl (yl_move rfl rfl (bcase (decide ((p_prefix.length : Int) ≤ (p_s.length : Int))) (fun hb5 => ?_) (fun hb5 => ?_)))))))))))
 ·have hb5p := dec_t hb5
  refine sy rfl rfl hb5 (yl_move rfl rfl (sy rfl rfl hb5 (yl_move rfl rfl (sy rfl rfl hb5 (yl_slen un9 (a := p_prefix) rfl rfl (sy rfl rfl hb5 (yl_sslice_hi un9 (a := p_s) (h := p_prefix.length) rfl rfl rfl (by omega) (sy rfl rfl hb5 (yl_move rfl rfl (sy rfl rfl hb5 (yl_seql (a := (p_s.take p_prefix.length)) (b := p_prefix) rfl rfl rfl (sd rfl (yl_pick_t rfl rfl hb5 rfl (sd rfl (yl_assign rfl rfl (SeqR.done ?_))))))))))))))))
  refine tn (CW.ret (rr rfl (.cons rfl .nil) ?_))
  have hM6 : (g_internal_stringslite_HasPrefix p_s p_prefix) = ((p_s.take p_prefix.length) == p_prefix) := by simp only [g_internal_stringslite_HasPrefix, hb5, cL]
  rw [hM6]
  exact ⟨rfl, (Ex.refl w)⟩
 ·have hb5p := dec_f hb5
  refine sz rfl rfl hb5 (sz rfl rfl hb5 (sz rfl rfl hb5 (sz rfl rfl hb5 (sz rfl rfl hb5 (sz rfl rfl hb5 (sd rfl (yl_pick_f rfl rfl hb5 rfl (sd rfl (yl_assign rfl rfl (SeqR.done ?_))))))))))
  refine tn (CW.ret (rr rfl (.cons rfl .nil) ?_))
  have hM7 : (g_internal_stringslite_HasPrefix p_s p_prefix) = (false) := by simp only [g_internal_stringslite_HasPrefix, hb5, cL]
  rw [hM7]
  exact ⟨rfl, (Ex.refl w)⟩
theorem c_g_internal_stringslite_CutPrefix {w : World} (p_s : Str) (p_prefix : Str) (o1 : okS p_s) (o2 : okS p_prefix) : Cal Tryz.prog 129 #[.string (bs (p_s)), .string (bs (p_prefix))] w fun v w' => v = .tuple #[.string (bs ((g_internal_stringslite_CutPrefix p_s p_prefix).1)), .bool ((g_internal_stringslite_CutPrefix p_s p_prefix).2)] ∧ okS ((g_internal_stringslite_CutPrefix p_s p_prefix).1) ∧ Ex w w' := by
 have hol3 : p_s.length ≤ 1073741824 := o1
 have hol4 : p_prefix.length ≤ 1073741824 := o2
 refine Cal.of func129 rfl ntmps129 rfl (CW.seq (CW.region (sd rfl (yl_assign rfl rfl (sd rfl (yl_assign rfl rfl (dn (CW.seq (CW.seq ?_)))))))))
 refine CW.region (sd rfl (yl_move rfl rfl (sd rfl (yl_move rfl rfl (sd rfl (yl_call en149 rfl (oc rfl (oc rfl oz)) (Cal.mono (c_g_internal_stringslite_HasPrefix p_s p_prefix o1 o2) ?_)))))))
 rintro v6 w5 ⟨rfl, hE7⟩
 have hE7z := Ex.size hE7
 refine sd rfl (yl_not rfl rfl (dn (bcase (g_internal_stringslite_HasPrefix p_s p_prefix) (fun hb8 => ?_) (fun hb8 => ?_))))
 ·have hb8p := f_HasPrefix hb8
  refine CW.cond_f rfl (not_t hb8) (CW.skip (tn (CW.seq (CW.region (sd rfl (yl_move rfl rfl (sd rfl (yl_move rfl rfl (sd rfl (yl_slen un9 (a := p_prefix) rfl rfl (sd rfl (yl_sslice_lo un9 (a := p_s) (l := p_prefix.length) rfl rfl rfl (by omega) ?_))))))))))))
  refine sd rfl (yl_assign rfl rfl (sd rfl (yl_assign rfl rfl (dn (CW.ret (rr rfl (.cons rfl (.cons rfl .nil)) ?_))))))
  have hM9 : (g_internal_stringslite_CutPrefix p_s p_prefix) = (((p_s.drop p_prefix.length), true)) := by simp only [g_internal_stringslite_CutPrefix, hb8, cL]
  rw [hM9]
  exact ⟨rfl, (okS.drop o1 _), (Ex.trans (Ex.refl w) hE7)⟩
 ·refine CW.cond_t rfl (not_f hb8) (CW.seq (CW.region (sd rfl (yl_move rfl rfl (sd rfl (yl_assign rfl rfl (sd rfl (yl_assign rfl rfl (dn (CW.ret ?_))))))))))
  refine tr (rr rfl (.cons rfl (.cons rfl .nil)) ?_)
  have hM11 : (g_internal_stringslite_CutPrefix p_s p_prefix) = ((p_s, false)) := by simp only [g_internal_stringslite_CutPrefix, hb8, cL]
  rw [hM11]
  exact ⟨rfl, o1, (Ex.trans (Ex.refl w) hE7)⟩
theorem c_g_strings_CutPrefix {w : World} (p_s : Str) (p_prefix : Str) (o1 : okS p_s) (o2 : okS p_prefix) : Cal Tryz.prog 102 #[.string (bs (p_s)), .string (bs (p_prefix))] w fun v w' => v = .tuple #[.string (bs ((g_strings_CutPrefix p_s p_prefix).1)), .bool ((g_strings_CutPrefix p_s p_prefix).2)] ∧ okS ((g_strings_CutPrefix p_s p_prefix).1) ∧ Ex w w' := by
 refine Cal.of func102 rfl ntmps102 rfl (CW.seq (CW.region (sd rfl (yl_assign rfl rfl (sd rfl (yl_assign rfl rfl (dn (CW.seq (CW.region ?_)))))))))
 refine sd rfl (yl_move rfl rfl (sd rfl (yl_move rfl rfl (sd rfl (yl_call en129 rfl (oc rfl (oc rfl oz)) (Cal.mono (c_g_internal_stringslite_CutPrefix p_s p_prefix o1 o2) ?_))))))
 rintro v7 w5 ⟨rfl, ho6, hE8⟩
 refine sd rfl (yl_extract rfl rfl rfl (sd rfl (yl_extract rfl rfl rfl (sd rfl (yl_assign rfl rfl (sd rfl (yl_assign rfl rfl (dn (CW.ret (rr rfl (.cons rfl (.cons rfl .nil)) ?_))))))))))
 have hM9 : (g_strings_CutPrefix p_s p_prefix) = (((g_internal_stringslite_CutPrefix p_s p_prefix).1, (g_internal_stringslite_CutPrefix p_s p_prefix).2)) := by simp only [g_strings_CutPrefix, cL]
 rw [hM9]
 exact ⟨rfl, ho6, (Ex.trans (Ex.refl w) hE8)⟩
theorem c_g_internal_stringslite_IndexByte {w : World} (p_s : Str) (p_c : Int) (o1 : okS p_s) : Cal Tryz.prog 167 #[.string (bs (p_s)), .int .u8 (p_c)] w fun v w' => v = .int .i64 ((g_internal_stringslite_IndexByte p_s p_c)) ∧ Ex w w' := by
 refine Cal.of func167 rfl ntmps167 rfl (CW.seq (CW.region (sd rfl (yl_assign rfl rfl (dn (CW.seq (CW.region (sd rfl (yl_move rfl rfl ?_)))))))))
 refine sd rfl (yl_move rfl rfl (sd rfl (yl_idxB (s := p_s) (c := p_c) Tryz.ex172 rfl (oc rfl (oc rfl oz)) (sd rfl (yl_assign rfl rfl (dn (CW.ret (rr rfl (.cons rfl .nil) ?_))))))))
 have hM3 : (g_internal_stringslite_IndexByte p_s p_c) = (idxB p_s p_c) := by simp only [g_internal_stringslite_IndexByte, cL]
 rw [hM3]
 exact ⟨rfl, (Ex.refl w)⟩
theorem c_g_internal_bytealg_Cutover {w : World} (p_n : Int) : Cal Tryz.prog 169 #[.int .i64 (p_n)] w fun v w' => v = .int .i64 ((g_internal_bytealg_Cutover p_n)) ∧ Ex w w' := by
 refine Cal.of func169 rfl ntmps169 rfl (CW.seq (CW.region (sd rfl (yl_assign rfl rfl (dn (CW.seq (CW.region (sd rfl (yl_move rfl rfl ?_)))))))))
 refine sd rfl (yl_add rfl rfl rfl (sd rfl (yl_quo rfl rfl rfl (by decide) (sd rfl (yl_assign rfl rfl (dn (CW.ret (rr rfl (.cons rfl .nil) ?_))))))))
 have hM1 : (g_internal_bytealg_Cutover p_n) = (IntKind.wrap .i64 (Int.tdiv (IntKind.wrap .i64 (p_n + 16)) 8)) := by simp only [g_internal_bytealg_Cutover, cL]
 rw [hM1]
 exact ⟨rfl, (Ex.refl w)⟩
theorem c_g_internal_stringslite_Index {w : World} (p_0 : Str) (p_1 : Str) (o1 : okS p_0) (o2 : okS p_1) (pre0 : p_1.length = 1) : Cal Tryz.prog 161 #[.string (bs (p_0)), .string (bs (p_1))] w fun v w' => v = .int .i64 ((g_internal_stringslite_Index p_0 p_1)) ∧ Ex w w' := by
 have hol3 : p_0.length ≤ 1073741824 := o1
 have hol4 : p_1.length ≤ 1073741824 := o2
 refine Cal.of func161 rfl ntmps161 rfl (CW.seq (CW.region (sd rfl (yl_assign rfl rfl (dn (CW.seq (CW.region (sd rfl (yl_move rfl rfl ?_)))))))))
 refine sd rfl (yl_slen un9 (a := p_1) rfl rfl (sd rfl (yl_assign rfl rfl (dn (CW.seq (CW.block (CW.seq (CW.region (sd rfl (yl_move rfl rfl ?_))))))))))
 refine sd rfl (yl_eql rfl rfl rfl (sd rfl (yl_move rfl rfl (sy rfl rfl (decide_eq_false (by omega)) (yl_move rfl rfl (sy rfl rfl (decide_eq_false (by omega)) (yl_move rfl rfl (sy rfl rfl (decide_eq_false (by omega)) (yl_seql (a := p_1) (b := p_0) rfl rfl rfl (sd rfl (yl_pick_f rfl rfl (decide_eq_false (by omega)) rfl (sd rfl (yl_assign rfl rfl (dn ?_))))))))))))))
 refine bcase (p_1 == p_0) (fun hb5 => ?_) (fun hb5 => ?_)
 ·refine CW.cond_t rfl hb5 (CW.seq (CW.region (sd rfl (yl_assign rfl rfl (dn (CW.ret (br (tr ?_))))))))
  refine rr rfl (.cons rfl .nil) ?_
  have hM6 : (g_internal_stringslite_Index p_0 p_1) = (0) := by simp only [g_internal_stringslite_Index, hb5, cL]
  rw [hM6]
  exact ⟨rfl, (Ex.refl w)⟩
 ·refine CW.cond_f rfl hb5 (CW.seq (CW.region (sd rfl (yl_move rfl rfl (sd rfl (yl_eql rfl rfl rfl (sd rfl (yl_assign rfl rfl (dn (CW.cond_t rfl (decide_eq_true (by omega)) ?_))))))))))
  refine CW.seq (CW.region (sd rfl (yl_move rfl rfl (sd rfl (yl_move rfl rfl (sd rfl (yl_sindexN un9 (a := p_1) rfl rfl rfl (by first | omega | assumption | (simp only [wI] at *; omega)) (sd rfl (yl_call en167 rfl (oc rfl (oc rfl oz)) (Cal.mono (c_g_internal_stringslite_IndexByte p_0 ((p_1.getD 0 0).toNat : Int) o1) ?_))))))))))
  rintro v8 w7 ⟨rfl, hE9⟩
  have hE9z := Ex.size hE9
  refine sd rfl (yl_assign rfl rfl (dn (CW.ret (br (tr (rr rfl (.cons rfl .nil) ?_))))))
  have hM10 : (g_internal_stringslite_Index p_0 p_1) = ((g_internal_stringslite_IndexByte p_0 ((p_1.getD 0 0).toNat : Int))) := by simp only [g_internal_stringslite_Index, hb5, cL]
  rw [hM10]
  exact ⟨rfl, (Ex.trans (Ex.refl w) hE9)⟩
theorem c_g_strings_Index {w : World} (p_s : Str) (p_substr : Str) (o1 : okS p_s) (o2 : okS p_substr) (pre0 : p_substr.length = 1) : Cal Tryz.prog 152 #[.string (bs (p_s)), .string (bs (p_substr))] w fun v w' => v = .int .i64 ((g_strings_Index p_s p_substr)) ∧ Ex w w' := by
 have hol3 : p_s.length ≤ 1073741824 := o1
 have hol4 : p_substr.length ≤ 1073741824 := o2
 refine Cal.of func152 rfl ntmps152 rfl (CW.seq (CW.region (sd rfl (yl_assign rfl rfl (dn (CW.seq (CW.region (sd rfl (yl_move rfl rfl ?_)))))))))
 refine sd rfl (yl_move rfl rfl (sd rfl (yl_call en161 rfl (oc rfl (oc rfl oz)) (Cal.mono (c_g_internal_stringslite_Index p_s p_substr o1 o2 (by first | omega | assumption | (simp only [wI] at *; omega))) ?_))))
 rintro v6 w5 ⟨rfl, hE7⟩
 have hE7z := Ex.size hE7
 have hrf8 := rf_Index (s := p_s) (sub := p_substr) (by first | omega | assumption | (simp only [wI] at *; omega))
 refine sd rfl (yl_assign rfl rfl (dn (CW.ret (rr rfl (.cons rfl .nil) ?_))))
 have hM9 : (g_strings_Index p_s p_substr) = ((g_internal_stringslite_Index p_s p_substr)) := by simp only [g_strings_Index, cL]
 rw [hM9]
 exact ⟨rfl, (Ex.trans (Ex.refl w) hE7)⟩
theorem c_g_slices_IndexFunc_string {A1 : Option Addr} {c1 : Nat} {g3 : Nat} {cp4 : List Value} {w : World} (p_s : List Str) (p_f : Str → Bool) (h1 : RdS w (Iv 0 w.heap.size) (RF e_Str) 1 A1 p_s.length c1 p_s) (hen5 : Go.X.Enters Tryz.prog g3) (hfn6 : ∀ (w1 : World) (y0 : Str), Ex w w1 → y0 ∈ p_s → okS y0 → Cal Tryz.prog g3 (([.string (bs (y0))] : List Value) ++ cp4).toArray w1 fun v w2 => v = .bool (p_f y0) ∧ Ex w1 w2) (o2 : (okL okS) p_s) : Cal Tryz.prog 153 #[.slice A1 p_s.length c1, .func (.func g3) #[] cp4.toArray] w fun v w' => v = .int .i64 ((g_slices_IndexFunc_string p_s p_f)) ∧ Ex w w' := by
 have hol7 := o2.1
 refine Cal.of func153 rfl ntmps153 rfl (CW.seq (CW.region (sd rfl (yl_assign rfl rfl (dn (CW.seq (CW.seq (CW.region ?_))))))))
 refine sd rfl (yl_move rfl rfl (sd rfl (yl_len un22 rfl rfl (sd rfl (yl_move rfl rfl (dn (CW.block (CW.loop (fun m9 L10 w11 => ∃ (k8 : Nat), m9 = p_s.length - k8 ∧ k8 ≤ p_s.length ∧ w.heap.size ≤ w11.heap.size ∧ lkp L10 0 = some (.slice A1 p_s.length c1) ∧ lkp L10 1 = some (.func (.func g3) #[] cp4.toArray) ∧ lkp L10 7 = some (.int .i64 ((p_s.length : Int))) ∧ lkp L10 8 = some (.int .i64 ((k8 : Int))) ∧ RdS w11 (Iv 0 w.heap.size) (RF e_Str) 1 A1 p_s.length c1 p_s ∧ Ex w w11 ∧ loopM (B_g_slices_IndexFunc_string_0 p_s p_f) (p_s.length - k8) k8 () = loopM (B_g_slices_IndexFunc_string_0 p_s p_f) (p_s.length - 0) 0 ()) (p_s.length - 0) ?_ ?_))))))))
 ·exact ⟨0, rfl, (by omega), Nat.le_refl _, rfl, rfl, rfl, rfl, h1, (Ex.refl w), rfl⟩
 ·rintro m12 L13 w14 ⟨k8, rfl, hk15, hsz17, hl18, hl19, hl20, hl21, hf22, hf23, hI16⟩
  refine CW.sub (Sub.cons hl18 (Sub.cons hl19 (Sub.cons hl20 (Sub.cons hl21 (Sub.nil _))))) ?_
  have hf23z := Ex.size hf23
  have hbg24 := RdS.big hf22
  rcases Nat.lt_or_ge k8 p_s.length with hlt25 | hlt25
  ·refine CW.seq (CW.region (sd rfl (yl_lss rfl rfl rfl (dn (CW.seq (CW.cond_t rfl (lt_t hlt25) (CW.skip (tn ?_))))))))
   refine CW.seq (CW.block (CW.seq (CW.region (sd rfl (yl_move rfl rfl (sd rfl (yl_assign rfl rfl (dn (CW.seq ?_)))))))))
   refine CW.region (sd rfl (yl_move rfl rfl (sd rfl (yl_move rfl rfl (sd rfl (yl_move rfl rfl ?_))))))
   obtain ⟨eb26, eo26, _, eA26, _, ebl26, _, eR26, eC26⟩ := RdS.aD hf22 d_Str (i := k8)
   obtain rfl := eR26
   have eC26 : Cells w14 eb26 (eo26 + k8 * 1) [.string (bs ((p_s.getD k8 d_Str)))] := eC26
   refine sd rfl (yl_ixN un22 ty9 rfl rfl rfl eA26 (sd rfl (yl_load1 ty9 rfl rfl (eC26 0 _ rfl) (sd rfl (yl_callv hen5 rfl rfl (oc rfl oz) (Cal.mono (hfn6 w14 (p_s.getD k8 d_Str) hf23 (getD_mem (by omega)) (okL.getD o2 ok_d_Str _)) ?_))))))
   rintro v28 w27 ⟨rfl, hE29⟩
   have hE29z := Ex.size hE29
   refine dn (bcase (p_f (p_s.getD k8 d_Str)) (fun hb30 => ?_) (fun hb30 => ?_))
   ·refine CW.cond_t rfl hb30 (CW.seq (CW.region (sd rfl (yl_move rfl rfl (sd rfl (yl_assign rfl rfl (dn (CW.ret (br ?_)))))))))
    refine tr (tr ?_)
    have hB32 : B_g_slices_IndexFunc_string_0 p_s p_f k8 () = .ret (k8 : Int) := by simp only [B_g_slices_IndexFunc_string_0, hb30, cL]
    have hL31 : loopM (B_g_slices_IndexFunc_string_0 p_s p_f) (p_s.length - 0) 0 () = .ret (k8 : Int) := hI16.symm.trans (loopM.ret hlt25 hB32)
    refine br (tr (rr rfl (.cons rfl .nil) ?_))
    have hM33 : (g_slices_IndexFunc_string p_s p_f) = ((k8 : Int)) := by simp only [g_slices_IndexFunc_string, hb30, hL31, cL]
    rw [hM33]
    exact ⟨rfl, (Ex.trans hf23 hE29)⟩
   ·refine CW.cond_f rfl hb30 (CW.skip (bn (tn (CW.region (sd rfl (yl_inc rfl rfl rfl (by omega) (sd rfl (yl_move rfl rfl (dn ?_)))))))))
    have hB35 : B_g_slices_IndexFunc_string_0 p_s p_f k8 () = .cont () := by simp only [B_g_slices_IndexFunc_string_0, hb30, cL]
    exact ⟨p_s.length - (k8 + 1), by omega, k8 + 1, rfl, hlt25, (by omega), rfl, rfl, rfl, rfl, (RdS.ex good_Str hf22 hE29), (Ex.trans hf23 hE29), (loopM.cont hlt25 hB35).symm.trans hI16⟩
  ·refine CW.seq (CW.region (sd rfl (yl_lss rfl rfl rfl (dn (CW.seq (CW.cond_f rfl (lt_f hlt25) (CW.exit (tx ?_))))))))
   refine tx ?_
   have hL38 : loopM (B_g_slices_IndexFunc_string_0 p_s p_f) (p_s.length - 0) 0 () = .done () := hI16.symm.trans (loopM.stop hlt25)
   refine bx (tn (CW.seq (CW.region (sd rfl (yl_assign rfl rfl (dn (CW.ret (rr rfl (.cons rfl .nil) ?_))))))))
   have hM39 : (g_slices_IndexFunc_string p_s p_f) = (-1) := by simp only [g_slices_IndexFunc_string, hL38, cL]
   rw [hM39]
   exact ⟨rfl, hf23⟩
theorem c_g_slices_ContainsFunc_string {A1 : Option Addr} {c1 : Nat} {g3 : Nat} {cp4 : List Value} {w : World} (p_s : List Str) (p_f : Str → Bool) (h1 : RdS w (Iv 0 w.heap.size) (RF e_Str) 1 A1 p_s.length c1 p_s) (hen5 : Go.X.Enters Tryz.prog g3) (hfn6 : ∀ (w1 : World) (y0 : Str), Ex w w1 → y0 ∈ p_s → okS y0 → Cal Tryz.prog g3 (([.string (bs (y0))] : List Value) ++ cp4).toArray w1 fun v w2 => v = .bool (p_f y0) ∧ Ex w1 w2) (o2 : (okL okS) p_s) : Cal Tryz.prog 131 #[.slice A1 p_s.length c1, .func (.func g3) #[] cp4.toArray] w fun v w' => v = .bool ((g_slices_ContainsFunc_string p_s p_f)) ∧ Ex w w' := by
 refine Cal.of func131 rfl ntmps131 rfl (CW.seq (CW.region (sd rfl (yl_assign rfl rfl (dn (CW.seq (CW.region (sd rfl (yl_move rfl rfl ?_)))))))))
 refine sd rfl (yl_move rfl rfl (sd rfl (yl_call en153 rfl (oc rfl (oc rfl oz)) (Cal.mono (c_g_slices_IndexFunc_string p_s p_f (RdS.up h1 good_Str) hen5 (fun w1 y0 => fun hE => hfn6 w1 y0 (Ex.trans (Ex.refl w) hE)) o2) ?_))))
 rintro v9 w8 ⟨rfl, hE10⟩
 refine sd rfl (yl_geq rfl rfl rfl (sd rfl (yl_assign rfl rfl (dn (CW.ret (rr rfl (.cons rfl .nil) ?_))))))
 have hM11 : (g_slices_ContainsFunc_string p_s p_f) = (decide (0 ≤ (g_slices_IndexFunc_string p_s p_f))) := by simp only [g_slices_ContainsFunc_string, cL]
 rw [hM11]
 exact ⟨rfl, (Ex.trans (Ex.refl w) hE10)⟩
theorem c_i_within {w : World} (p_n : Int) (p_low : Int) (p_high : Int) : Cal Tryz.prog 66 #[.int .i64 (p_n), .int .i64 (p_low), .int .i64 (p_high)] w fun v w' => v = .bool ((i_within p_n p_low p_high)) ∧ Ex w w' := by
 refine Cal.of func66 rfl ntmps66 rfl (CW.seq (CW.region (sd rfl (yl_assign rfl rfl (dn (CW.seq (CW.region (sd rfl (yl_move rfl rfl ?_)))))))))
 refine sd rfl (yl_move rfl rfl (sd rfl (yl_geq rfl rfl rfl (sd rfl (yl_move rfl rfl (bcase (decide (p_low ≤ p_n)) (fun hb1 => ?_) (fun hb1 => ?_)))))))
 ·have hb1p := dec_t hb1
  refine sy rfl rfl hb1 (yl_move rfl rfl (sy rfl rfl hb1 (yl_move rfl rfl (sy rfl rfl hb1 (yl_leq rfl rfl rfl (sd rfl (yl_pick_t rfl rfl hb1 rfl (sd rfl (yl_assign rfl rfl (dn (CW.ret (rr rfl (.cons rfl .nil) ?_))))))))))))
  have hM2 : (i_within p_n p_low p_high) = (decide (p_n ≤ p_high)) := by simp only [i_within, hb1, cL]
  rw [hM2]
  exact ⟨rfl, (Ex.refl w)⟩
 ·have hb1p := dec_f hb1
  refine sz rfl rfl hb1 (sz rfl rfl hb1 (sz rfl rfl hb1 (sd rfl (yl_pick_f rfl rfl hb1 rfl (sd rfl (yl_assign rfl rfl (dn (CW.ret (rr rfl (.cons rfl .nil) ?_)))))))))
  have hM3 : (i_within p_n p_low p_high) = (false) := by simp only [i_within, hb1, cL]
  rw [hM3]
  exact ⟨rfl, (Ex.refl w)⟩
theorem c_i_isLowerOrDigit {w : World} (p_b : Int) : Cal Tryz.prog 159 #[.int .u8 (p_b)] w fun v w' => v = .bool ((i_isLowerOrDigit p_b)) ∧ Ex w w' := by
 refine Cal.of func159 rfl ntmps159 rfl (CW.seq (CW.region (sd rfl (yl_assign rfl rfl (dn (CW.seq (CW.region (sd rfl (yl_move rfl rfl ?_)))))))))
 refine sd rfl (yl_geq rfl rfl rfl (sd rfl (yl_move rfl rfl (bcase (decide (97 ≤ p_b)) (fun hb1 => ?_) (fun hb1 => ?_)))))
 ·have hb1p := dec_t hb1
  refine sy rfl rfl hb1 (yl_move rfl rfl (sy rfl rfl hb1 (yl_leq rfl rfl rfl (sd rfl (yl_pick_t rfl rfl hb1 rfl (sd rfl (yl_move rfl rfl (bcase (decide (p_b ≤ 122)) (fun hb2 => ?_) (fun hb2 => ?_)))))))))
  ·have hb2p := dec_t hb2
   refine sz rfl rfl hb2 (sz rfl rfl hb2 (sz rfl rfl hb2 (sq rfl rfl (sq rfl rfl (sz rfl rfl hb2 (sd rfl (yl_pick_t rfl rfl hb2 rfl (sd rfl (yl_assign rfl rfl (SeqR.done ?_))))))))))
   refine tn (CW.ret (rr rfl (.cons rfl .nil) ?_))
   have hM3 : (i_isLowerOrDigit p_b) = (true) := by simp only [i_isLowerOrDigit, hb1, hb2, cL]
   rw [hM3]
   exact ⟨rfl, (Ex.refl w)⟩
  ·have hb2p := dec_f hb2
   refine sy rfl rfl hb2 (yl_move rfl rfl (sy rfl rfl hb2 (yl_geq rfl rfl rfl (sy rfl rfl hb2 (yl_move rfl rfl (bcase (decide (48 ≤ p_b)) (fun hb4 => ?_) (fun hb4 => ?_)))))))
   ·have hb4p := dec_t hb4
    refine sy rfl rfl hb4 (yl_move rfl rfl (sy rfl rfl hb4 (yl_leq rfl rfl rfl (sy rfl rfl hb2 (yl_pick_t rfl rfl hb4 rfl (sd rfl (yl_pick_f rfl rfl hb2 rfl (sd rfl (yl_assign rfl rfl (dn (CW.ret (rr rfl (.cons rfl .nil) ?_))))))))))))
    have hM5 : (i_isLowerOrDigit p_b) = (decide (p_b ≤ 57)) := by simp only [i_isLowerOrDigit, hb1, hb2, hb4, cL]
    rw [hM5]
    exact ⟨rfl, (Ex.refl w)⟩
   ·have hb4p := dec_f hb4
    refine sz rfl rfl hb4 (sz rfl rfl hb4 (sy rfl rfl hb2 (yl_pick_f rfl rfl hb4 rfl (sd rfl (yl_pick_f rfl rfl hb2 rfl (sd rfl (yl_assign rfl rfl (dn (CW.ret (rr rfl (.cons rfl .nil) ?_))))))))))
    have hM6 : (i_isLowerOrDigit p_b) = (false) := by simp only [i_isLowerOrDigit, hb1, hb2, hb4, cL]
    rw [hM6]
    exact ⟨rfl, (Ex.refl w)⟩
 ·have hb1p := dec_f hb1
  refine sz rfl rfl hb1 (sz rfl rfl hb1 (sd rfl (yl_pick_f rfl rfl hb1 rfl (sd rfl (yl_move rfl rfl (sy rfl rfl rfl (yl_move rfl rfl (sy rfl rfl rfl (yl_geq rfl rfl rfl (sy rfl rfl rfl (yl_move rfl rfl (bcase (decide (48 ≤ p_b)) (fun hb7 => ?_) (fun hb7 => ?_)))))))))))))
  ·have hb7p := dec_t hb7
   refine sy rfl rfl hb7 (yl_move rfl rfl (sy rfl rfl hb7 (yl_leq rfl rfl rfl (sy rfl rfl rfl (yl_pick_t rfl rfl hb7 rfl (sd rfl (yl_pick_f rfl rfl rfl rfl (sd rfl (yl_assign rfl rfl (dn (CW.ret (rr rfl (.cons rfl .nil) ?_))))))))))))
   have hM8 : (i_isLowerOrDigit p_b) = (decide (p_b ≤ 57)) := by simp only [i_isLowerOrDigit, hb1, hb7, cL]
   rw [hM8]
   exact ⟨rfl, (Ex.refl w)⟩
  ·have hb7p := dec_f hb7
   refine sz rfl rfl hb7 (sz rfl rfl hb7 (sy rfl rfl rfl (yl_pick_f rfl rfl hb7 rfl (sd rfl (yl_pick_f rfl rfl rfl rfl (sd rfl (yl_assign rfl rfl (dn (CW.ret (rr rfl (.cons rfl .nil) ?_))))))))))
   have hM9 : (i_isLowerOrDigit p_b) = (false) := by simp only [i_isLowerOrDigit, hb1, hb7, cL]
   rw [hM9]
   exact ⟨rfl, (Ex.refl w)⟩
theorem c_g_strings_IndexByte {w : World} (p_s : Str) (p_c : Int) (o1 : okS p_s) : Cal Tryz.prog 160 #[.string (bs (p_s)), .int .u8 (p_c)] w fun v w' => v = .int .i64 ((g_strings_IndexByte p_s p_c)) ∧ Ex w w' := by
 refine Cal.of func160 rfl ntmps160 rfl (CW.seq (CW.region (sd rfl (yl_assign rfl rfl (dn (CW.seq (CW.region (sd rfl (yl_move rfl rfl ?_)))))))))
 refine sd rfl (yl_move rfl rfl (sd rfl (yl_call en167 rfl (oc rfl (oc rfl oz)) (Cal.mono (c_g_internal_stringslite_IndexByte p_s p_c o1) ?_))))
 rintro v4 w3 ⟨rfl, hE5⟩
 refine sd rfl (yl_assign rfl rfl (dn (CW.ret (rr rfl (.cons rfl .nil) ?_))))
 have hM6 : (g_strings_IndexByte p_s p_c) = ((g_internal_stringslite_IndexByte p_s p_c)) := by simp only [g_strings_IndexByte, cL]
 rw [hM6]
 exact ⟨rfl, (Ex.trans (Ex.refl w) hE5)⟩
theorem c_i_hasBytes {w : World} (p_s : Str) (p_others : Str) (o1 : okS p_s) (o2 : okS p_others) : Cal Tryz.prog 143 #[.string (bs (p_s)), .string (bs (p_others))] w fun v w' => v = .bool ((i_hasBytes p_s p_others)) ∧ Ex w w' := by
 have hol3 : p_s.length ≤ 1073741824 := o1
 have hol4 : p_others.length ≤ 1073741824 := o2
 refine Cal.of func143 rfl ntmps143 rfl (CW.seq (CW.region (sd rfl (yl_assign rfl rfl (dn (CW.seq (CW.seq (CW.region ?_))))))))
 refine sd rfl (yl_move rfl rfl (sd rfl (yl_slen un9 (a := p_s) rfl rfl (sd rfl (yl_move rfl rfl (dn (CW.block (CW.loop (fun m6 L7 w8 => ∃ (k5 : Nat), m6 = p_s.length - k5 ∧ k5 ≤ p_s.length ∧ w.heap.size ≤ w8.heap.size ∧ lkp L7 0 = some (.string (bs (p_s))) ∧ lkp L7 1 = some (.string (bs (p_others))) ∧ lkp L7 7 = some (.int .i64 ((p_s.length : Int))) ∧ lkp L7 8 = some (.int .i64 ((k5 : Int))) ∧ Ex w w8 ∧ loopM (B_i_hasBytes_0 p_s p_others) (p_s.length - k5) k5 () = loopM (B_i_hasBytes_0 p_s p_others) (p_s.length - 0) 0 ()) (p_s.length - 0) ?_ ?_))))))))
 ·exact ⟨0, rfl, (by omega), Nat.le_refl _, rfl, rfl, rfl, rfl, (Ex.refl w), rfl⟩
 ·rintro m9 L10 w11 ⟨k5, rfl, hk12, hsz14, hl15, hl16, hl17, hl18, hf19, hI13⟩
  refine CW.sub (Sub.cons hl15 (Sub.cons hl16 (Sub.cons hl17 (Sub.cons hl18 (Sub.nil _))))) ?_
  have hf19z := Ex.size hf19
  have hbg20 : p_s.length ≤ 1073741824 := o1
  rcases Nat.lt_or_ge k5 p_s.length with hlt21 | hlt21
  ·refine CW.seq (CW.region (sd rfl (yl_lss rfl rfl rfl (dn (CW.seq (CW.cond_t rfl (lt_t hlt21) (CW.skip (tn ?_))))))))
   refine CW.seq (CW.block (CW.seq (CW.region (sd rfl (yl_move rfl rfl (sd rfl (yl_assign rfl rfl (dn (CW.seq ?_)))))))))
   refine CW.region (sd rfl (yl_move rfl rfl (sd rfl (yl_move rfl rfl (sd rfl (yl_sindexN un9 (a := p_s) rfl rfl rfl (by first | omega | assumption | (simp only [wI] at *; omega)) (sd rfl (yl_call en159 rfl (oc rfl oz) (Cal.mono (c_i_isLowerOrDigit ((p_s.getD k5 0).toNat : Int)) ?_)))))))))
   rintro v23 w22 ⟨rfl, hE24⟩
   have hE24z := Ex.size hE24
   refine sd rfl (yl_not rfl rfl (sd rfl (yl_move rfl rfl (bcase (i_isLowerOrDigit ((p_s.getD k5 0).toNat : Int)) (fun hb25 => ?_) (fun hb25 => ?_)))))
   ·refine sz rfl rfl (not_t hb25) (sz rfl rfl (not_t hb25) (sz rfl rfl (not_t hb25) (sz rfl rfl (not_t hb25) (sz rfl rfl (not_t hb25) (sz rfl rfl (not_t hb25) (sd rfl (yl_pick_f rfl rfl (not_t hb25) rfl (dn ?_))))))))
    refine CW.cond_f rfl rfl (CW.skip (bn (tn (CW.region (sd rfl (yl_inc rfl rfl rfl (by omega) (sd rfl (yl_move rfl rfl (dn ?_)))))))))
    have hB26 : B_i_hasBytes_0 p_s p_others k5 () = .cont () := by simp only [B_i_hasBytes_0, hb25, cL]
    exact ⟨p_s.length - (k5 + 1), by omega, k5 + 1, rfl, hlt21, (by omega), rfl, rfl, rfl, rfl, (Ex.trans hf19 hE24), (loopM.cont hlt21 hB26).symm.trans hI13⟩
   ·refine sy rfl rfl (not_f hb25) (yl_move rfl rfl (sy rfl rfl (not_f hb25) (yl_move rfl rfl (sy rfl rfl (not_f hb25) (yl_move rfl rfl (sy rfl rfl (not_f hb25) (yl_sindexN un9 (a := p_s) rfl rfl rfl (by first | omega | assumption | (simp only [wI] at *; omega)) (sy rfl rfl (not_f hb25) (yl_call en160 rfl (oc rfl (oc rfl oz)) (Cal.mono (c_g_strings_IndexByte p_others ((p_s.getD k5 0).toNat : Int) o2) ?_))))))))))
    rintro v29 w28 ⟨rfl, hE30⟩
    have hE30z := Ex.size hE30
    refine sy rfl rfl (not_f hb25) (yl_lss rfl rfl rfl (sd rfl (yl_pick_t rfl rfl (not_f hb25) rfl (dn (bcase (decide ((g_strings_IndexByte p_others ((p_s.getD k5 0).toNat : Int)) < 0)) (fun hb31 => ?_) (fun hb31 => ?_))))))
    ·have hb31p := dec_t hb31
     refine CW.cond_t rfl hb31 (CW.seq (CW.region (sd rfl (yl_assign rfl rfl (dn (CW.ret (br (tr ?_))))))))
     refine tr ?_
     have hB33 : B_i_hasBytes_0 p_s p_others k5 () = .ret false := by simp only [B_i_hasBytes_0, hb25, hb31, cL]
     have hL32 : loopM (B_i_hasBytes_0 p_s p_others) (p_s.length - 0) 0 () = .ret false := hI13.symm.trans (loopM.ret hlt21 hB33)
     refine br (tr (rr rfl (.cons rfl .nil) ?_))
     have hM34 : (i_hasBytes p_s p_others) = (false) := by simp only [i_hasBytes, hb25, hb31, hL32, cL]
     rw [hM34]
     exact ⟨rfl, (Ex.trans (Ex.trans hf19 hE24) hE30)⟩
    ·have hb31p := dec_f hb31
     refine CW.cond_f rfl hb31 (CW.skip (bn (tn (CW.region (sd rfl (yl_inc rfl rfl rfl (by omega) (sd rfl (yl_move rfl rfl (dn ?_)))))))))
     have hB37 : B_i_hasBytes_0 p_s p_others k5 () = .cont () := by simp only [B_i_hasBytes_0, hb25, hb31, cL]
     exact ⟨p_s.length - (k5 + 1), by omega, k5 + 1, rfl, hlt21, (by omega), rfl, rfl, rfl, rfl, (Ex.trans (Ex.trans hf19 hE24) hE30), (loopM.cont hlt21 hB37).symm.trans hI13⟩
  ·refine CW.seq (CW.region (sd rfl (yl_lss rfl rfl rfl (dn (CW.seq (CW.cond_f rfl (lt_f hlt21) (CW.exit (tx ?_))))))))
   refine tx ?_
   have hL40 : loopM (B_i_hasBytes_0 p_s p_others) (p_s.length - 0) 0 () = .done () := hI13.symm.trans (loopM.stop hlt21)
   refine bx (tn (CW.seq (CW.region (sd rfl (yl_assign rfl rfl (dn (CW.ret (rr rfl (.cons rfl .nil) ?_))))))))
   have hM41 : (i_hasBytes p_s p_others) = (true) := by simp only [i_hasBytes, hL40, cL]
   rw [hM41]
   exact ⟨rfl, hf19⟩
theorem c_i_isField {w : World} (p_s : Str) (o1 : okS p_s) : Cal Tryz.prog 121 #[.string (bs (p_s))] w fun v w' => v = .bool ((i_isField p_s)) ∧ Ex w w' := by
 refine Cal.of func121 rfl ntmps121 rfl (CW.seq (CW.region (sd rfl (yl_assign rfl rfl (dn (CW.seq (CW.region (sd rfl (yl_move rfl rfl ?_)))))))))
 refine sd rfl (yl_slen un9 (a := p_s) rfl rfl (sd rfl (yl_call en66 rfl (oc rfl (oc rfl (oc rfl oz))) (Cal.mono (c_i_within (p_s.length : Int) 1 3) ?_))))
 rintro v4 w3 ⟨rfl, hE5⟩
 refine sd rfl (yl_move rfl rfl (bcase (i_within (p_s.length : Int) 1 3) (fun hb6 => ?_) (fun hb6 => ?_)))
 ·have hb6p := f_within hb6
  refine sy rfl rfl hb6 (yl_move rfl rfl (sy rfl rfl hb6 (yl_call en143 rfl (oc rfl (oc rfl oz)) (Cal.mono (c_i_hasBytes p_s ([] : Str) o1 (okS.lit rfl)) ?_))))
  rintro v8 w7 ⟨rfl, hE9⟩
  refine sd rfl (yl_pick_t rfl rfl hb6 rfl (sd rfl (yl_assign rfl rfl (dn (CW.ret (rr rfl (.cons rfl .nil) ?_))))))
  have hM10 : (i_isField p_s) = ((i_hasBytes p_s ([] : Str))) := by simp only [i_isField, hb6, cL]
  rw [hM10]
  exact ⟨rfl, (Ex.trans (Ex.trans (Ex.refl w) hE5) hE9)⟩
 ·refine sz rfl rfl hb6 (sz rfl rfl hb6 (sd rfl (yl_pick_f rfl rfl hb6 rfl (sd rfl (yl_assign rfl rfl (dn (CW.ret (rr rfl (.cons rfl .nil) ?_))))))))
  have hM13 : (i_isField p_s) = (false) := by simp only [i_isField, hb6, cL]
  rw [hM13]
  exact ⟨rfl, (Ex.trans (Ex.refl w) hE5)⟩
theorem c_i_Table_isRow_c1 {w : World} (p_s : Str) (o1 : okS p_s) : Cal Tryz.prog 132 #[.string (bs (p_s))] w fun v w' => v = .bool ((i_Table_isRow_c1 p_s)) ∧ Ex w w' := by
 refine Cal.of func132 rfl ntmps132 rfl (CW.seq (CW.region (sd rfl (yl_assign rfl rfl (dn (CW.seq (CW.region (sd rfl (yl_move rfl rfl ?_)))))))))
 refine sd rfl (yl_call en121 rfl (oc rfl oz) (Cal.mono (c_i_isField p_s o1) ?_))
 rintro v4 w3 ⟨rfl, hE5⟩
 refine sd rfl (yl_not rfl rfl (sd rfl (yl_assign rfl rfl (dn (CW.ret (rr rfl (.cons rfl .nil) ?_))))))
 have hM6 : (i_Table_isRow_c1 p_s) = (!(i_isField p_s)) := by simp only [i_Table_isRow_c1, cL]
 rw [hM6]
 exact ⟨rfl, (Ex.trans (Ex.refl w) hE5)⟩
theorem c_i_Table_isRow {A1 : Option Addr} {c1 : Nat} {A2 : Option Addr} {c2 : Nat} {A4 : Option Addr} {c4 : Nat} {w : World} (p_t : DTable) (p_r : DRow) (h1 : RdS w (Iv 0 w.heap.size) (RF e_Str) 1 A1 p_t.Cols.length c1 p_t.Cols) (h2 : RdS w (Iv 0 w.heap.size) (RF e_Idx) 3 A2 p_t.Idxs.length c2 p_t.Idxs) (h4 : RdS w (Iv 0 w.heap.size) (RF e_Str) 1 A4 p_r.Vals.length c4 p_r.Vals) (o3 : ok_Table p_t) (o5 : ok_Row p_r) : Cal Tryz.prog 104 #[.agg #[.string (bs (p_t.Name)), .slice A1 p_t.Cols.length c1, .slice A2 p_t.Idxs.length c2], .agg #[.slice A4 p_r.Vals.length c4]] w fun v w' => v = .bool ((i_Table_isRow p_t p_r)) ∧ Ex w w' := by
 refine Cal.of func104 rfl ntmps104 rfl (CW.seq (CW.region (sd rfl (yl_box rfl rfl rfl ?_))))
 intro b10 w11 hs12 hz13 hB14 hE15
 refine sd rfl (yl_box rfl rfl rfl ?_)
 intro b16 w17 hs18 hz19 hB20 hE21
 refine sd rfl (yl_assign rfl rfl (dn (CW.seq (CW.region (sd rfl (yl_fieldAddr fd80_0 rfl rfl (sd rfl (yl_load1 ty22 rfl rfl ((hB20.cell 0).trans rfl) (sd rfl (yl_len un22 rfl rfl (sd rfl (yl_fieldAddr fd34_1 rfl rfl ?_))))))))))))
 refine sd rfl (yl_load1 ty22 rfl rfl (((Box.ex hB14 hE21).cell 1).trans rfl) (sd rfl (yl_len un22 rfl rfl (sd rfl (yl_eql rfl rfl rfl (sd rfl (yl_move rfl rfl (bcase (decide ((p_r.Vals.length : Int) = (p_t.Cols.length : Int))) (fun hb23 => ?_) (fun hb23 => ?_)))))))))
 ·have hb23p := dec_t hb23
  refine sy rfl rfl hb23 (yl_fieldAddr fd80_0 rfl rfl (sy rfl rfl hb23 (yl_load1 ty22 rfl rfl ((hB20.cell 0).trans rfl) (sy rfl rfl hb23 (yl_call en131 rfl (oc rfl (oc rfl oz)) (Cal.mono (c_g_slices_ContainsFunc_string p_r.Vals (fun y0 => i_Table_isRow_c1 y0) (RdS.up (RdS.ex good_Str (RdS.ex good_Str h4 hE15) hE21) good_Str) en132 (fun _ y0 => fun hE hm0 ov0 => c_i_Table_isRow_c1 y0 ov0) o5) ?_))))))
  rintro v27 w26 ⟨rfl, hE28⟩
  refine sy rfl rfl hb23 (yl_not rfl rfl (sd rfl (yl_pick_t rfl rfl hb23 rfl (sd rfl (yl_assign rfl rfl (dn (CW.ret (rr rfl (.cons rfl .nil) ?_))))))))
  have hM29 : (i_Table_isRow p_t p_r) = (!(g_slices_ContainsFunc_string p_r.Vals (fun y0 => i_Table_isRow_c1 y0))) := by simp only [i_Table_isRow, hb23, cL]
  rw [hM29]
  exact ⟨rfl, (Ex.trans (Ex.trans (Ex.trans (Ex.refl w) hE15) hE21) hE28)⟩
 ·have hb23p := dec_f hb23
  refine sz rfl rfl hb23 (sz rfl rfl hb23 (sz rfl rfl hb23 (sz rfl rfl hb23 (sd rfl (yl_pick_f rfl rfl hb23 rfl (sd rfl (yl_assign rfl rfl (dn (CW.ret ?_)))))))))
  refine rr rfl (.cons rfl .nil) ?_
  have hM33 : (i_Table_isRow p_t p_r) = (false) := by simp only [i_Table_isRow, hb23, cL]
  rw [hM33]
  exact ⟨rfl, (Ex.trans (Ex.trans (Ex.refl w) hE15) hE21)⟩
theorem c_i_Table_readRow {A1 : Option Addr} {c1 : Nat} {A2 : Option Addr} {c2 : Nat} {w : World} (p_t : DTable) (p_w : DWrite) (h1 : RdS w (Iv 0 w.heap.size) (RF e_Str) 1 A1 p_t.Cols.length c1 p_t.Cols) (h2 : RdS w (Iv 0 w.heap.size) (RF e_Idx) 3 A2 p_t.Idxs.length c2 p_t.Idxs) (o3 : ok_Table p_t) (o4 : ok_Write p_w) (pre0 : s_GoodTable p_t = true) : Cal Tryz.prog 71 #[.agg #[.string (bs (p_t.Name)), .slice A1 p_t.Cols.length c1, .slice A2 p_t.Idxs.length c2], .agg #[.string (bs (p_w.Key)), .string (bs (p_w.Val)), .bool (p_w.Gone)]] w fun v w' => ∃ A_1 c_1 lo_1 hi_1, v = .tuple #[.agg #[.slice A_1 (((i_Table_readRow p_t p_w).1.Vals).length) c_1], .bool ((i_Table_readRow p_t p_w).2)] ∧ OwnL w' lo_1 hi_1 9 1 (RF e_Str) A_1 (((i_Table_readRow p_t p_w).1.Vals).length) c_1 ((i_Table_readRow p_t p_w).1.Vals) ∧ ok_Row ((i_Table_readRow p_t p_w).1) ∧ (w.heap.size ≤ lo_1 ∧ lo_1 ≤ hi_1 ∧ hi_1 ≤ w'.heap.size) ∧ Ex w w' := by
 have hol5 : p_t.Name.length ≤ 1073741824 := o3.1
 have hol6 := o3.2.1.1
 have hol7 := o3.2.2.1
 have hol8 : p_w.Key.length ≤ 1073741824 := o4.1
 have hol9 : p_w.Val.length ≤ 1073741824 := o4.2
 have hgt := f_s_GoodTable pre0
 have hgn := gt_name pre0
 refine Cal.of func71 rfl ntmps71 rfl (CW.seq (CW.region (sd rfl (yl_box rfl rfl rfl ?_))))
 intro b10 w11 hs12 hz13 hB14 hE15
 refine sd rfl (yl_box rfl rfl rfl ?_)
 intro b16 w17 hs18 hz19 hB20 hE21
 refine sd rfl (yl_alloc ty80 (cs := [.slice none 0 0]) rfl rfl ?_)
 intro b22 w23 hs24 hz25 hB26 hE27
 refine sd rfl (yl_assign rfl rfl (dn (CW.seq (CW.region (sd rfl (yl_fieldAddr fd75_0 rfl rfl ?_))))))
 have q28 := Box.ex hB20 hE27
 refine sd rfl (yl_load1 ty9 rfl rfl ((q28.cell 0).trans rfl) (sd rfl (yl_fieldAddr fd34_0 rfl rfl ?_)))
 have q30 := Box.ex (Box.ex hB14 hE21) hE27
 refine sd rfl (yl_load1 ty9 rfl rfl ((q30.cell 0).trans rfl) ?_)
 have hol31 : p_t.Name.length ≤ 1073741824 := o3.1
 refine sd rfl (yl_sadd (a := p_t.Name) (b := ([47] : Str)) rfl rfl rfl (by first | omega | (simp only [List.length_append, List.length_cons, List.length_nil, List.length_take, List.length_drop, toS_length]; omega)) (sd rfl (yl_call en102 rfl (oc rfl (oc rfl oz)) (Cal.mono (c_g_strings_CutPrefix p_w.Key (p_t.Name ++ ([47] : Str)) o4.1 (okS_nm hgn)) ?_))))
 rintro v34 w32 ⟨rfl, ho33, hE35⟩
 have hE35z := Ex.size hE35
 refine sd rfl (yl_move rfl rfl (sd rfl (yl_extract rfl rfl rfl (sd rfl (yl_extract rfl rfl rfl (sd rfl (yl_assign rfl rfl (sd rfl (yl_assign rfl rfl (dn (CW.seq (CW.region ?_))))))))))))
 refine sd rfl (yl_move rfl rfl (sd rfl (yl_buildSlice (cs := [.string (bs ((g_strings_CutPrefix p_w.Key (p_t.Name ++ ([47] : Str))).1))]) un22 ty9 (by decide) rfl (oc rfl oz) (by kernel_rfl) ?_)))
 intro b36 w37 hs38 hz39 hB40 hE41
 have hO42 : OwnL w37 b36 (b36 + 1) 9 1 (RF e_Str) (some ⟨b36, 0, none⟩) 1 1 ([(g_strings_CutPrefix p_w.Key (p_t.Name ++ ([47] : Str))).1] : List Str) := OwnL.of_box (S := fun _ => False) hB40 (Nat.le_refl _) (Nat.lt_succ_self _) (EncL.cons (c := [.string (bs ((g_strings_CutPrefix p_w.Key (p_t.Name ++ ([47] : Str))).1))]) rfl rfl EncL.nil) (Nat.le_of_ble_eq_true rfl) (fun h => h) (fun _ h => False.elim h)
 refine sd rfl (yl_fieldAddr fd75_1 rfl rfl ?_)
 have q44 := Box.ex (Box.ex q28 hE35) hE41
 refine sd rfl (yl_load1 ty9 rfl rfl ((q44.cell 1).trans rfl) (sd rfl (yl_call en103 rfl (oc rfl (oc rfl oz)) (Cal.mono (c_g_strings_Split p_w.Val ([44] : Str) o4.2 (okS.lit rfl) rfl) ?_))))
 rintro v48 w45 ⟨A46, c46, lo46, hi46, rfl, h46, ho47, hrn50, hE49⟩
 have hE49z := Ex.size hE49
 have hrf51 := rf_Split p_w.Val ([44] : Str)
 obtain ⟨nw54, he55, hs56⟩ := RdS.src (OwnL.rd good_Str h46)
 have hol57 : (g_strings_Split p_w.Val ([44] : Str)).length ≤ 2147483648 := ho47.1
 refine sd rfl (yl_appendL (S := (fun _ => False)) (lo := b36) (hi := (b36 + 1)) (xs := ([(g_strings_CutPrefix p_w.Key (p_t.Name ++ ([47] : Str))).1] : List Str)) (ys := (g_strings_Split p_w.Val ([44] : Str))) good_Str un22 ty9 rfl (Nat.le_of_ble_eq_true rfl) rfl rfl rfl (OwnL.ex good_Str hO42 hE49) he55 hs56 rfl (by first | omega | (simp only [List.length_append, List.length_cons, List.length_nil, List.length_take, List.length_drop, List.length_replicate, List.length_set, toS_length]; omega)) (by first | omega | (simp only [List.length_append, List.length_cons, List.length_nil, List.length_take, List.length_drop, List.length_replicate, List.length_set, toS_length]; omega)) (by omega) (by omega) (fun _ h _ => False.elim h) (by omega) ?_)
 intro A58 c59 w60 row61 hO62 hG63 hrg64
 have hG63z := hG63.size
 refine sd rfl (yl_build (cs := [.slice A58 ((([(g_strings_CutPrefix p_w.Key (p_t.Name ++ ([47] : Str))).1] : List Str) ++ (g_strings_Split p_w.Val ([44] : Str))).length) c59]) rfl (oc rfl oz) (by kernel_rfl) (sd rfl (yl_alloc ty80 (cs := [.slice none 0 0]) rfl rfl ?_)))
 intro b65 w66 hs67 hz68 hB69 hE70
 refine SeqR.u rfl rfl (yl_store (vs := [.slice A58 ((([(g_strings_CutPrefix p_w.Key (p_t.Name ++ ([47] : Str))).1] : List Str) ++ (g_strings_Split p_w.Val ([44] : Str))).length) c59]) ty80 rfl rfl rfl rfl rfl rfl hB69 (Nat.le_of_ble_eq_true rfl) ?_)
 intro w71 hB72 hO73
 have hB72 : Box w71 b65 80 [.slice A58 ((([(g_strings_CutPrefix p_w.Key (p_t.Name ++ ([47] : Str))).1] : List Str) ++ (g_strings_Split p_w.Val ([44] : Str))).length) c59] := hB72
 have hO73z := hO73.size
 refine dn (CW.seq (CW.seq (bcase ((g_strings_CutPrefix p_w.Key (p_t.Name ++ ([47] : Str))).2) (fun hb74 => ?_) (fun hb74 => ?_))))
 ·have hol102 : (g_strings_Split p_w.Val ([44] : Str)).length ≤ 2147483648 := ho47.1
  refine bcase (i_Table_isRow p_t (⟨(([(g_strings_CutPrefix p_w.Key (p_t.Name ++ ([47] : Str))).1] : List Str) ++ (g_strings_Split p_w.Val ([44] : Str)))⟩ : DRow)) (fun hb104 => ?_) (fun hb104 => ?_)
  ·obtain ⟨hb104p0, hb104p1⟩ := f_i_isRow hb104
   have q110 := Box.only (Box.ex (Box.grown (Box.ex (Box.ex (Box.ex q30 hE35) hE41) hE49) hG63 (fun k hk => by have := hrg64 k hk; omega)) hE70) hO73 (by omega)
   have q119 := RdS.only good_Str (RdS.ex good_Str (RdS.grown good_Str (RdS.ex good_Str (RdS.ex good_Str (RdS.ex good_Str (RdS.ex good_Str (RdS.ex good_Str (RdS.ex good_Str h1 hE15) hE21) hE27) hE35) hE41) hE49) hG63 (fun k hk => by have := hrg64 k hk; simp only [Iv]; omega)) hE70) hO73 (by simp only [Iv]; omega)
   have q128 := RdS.only good_Idx (RdS.ex good_Idx (RdS.grown good_Idx (RdS.ex good_Idx (RdS.ex good_Idx (RdS.ex good_Idx (RdS.ex good_Idx (RdS.ex good_Idx (RdS.ex good_Idx h2 hE15) hE21) hE27) hE35) hE41) hE49) hG63 (fun k hk => by have := hrg64 k hk; simp only [Iv]; omega)) hE70) hO73 (by simp only [Iv]; omega)
   have q131 := OwnL.only good_Str (OwnL.ex good_Str hO62 hE70) hO73 (by omega)
   have hol132 : (g_strings_Split p_w.Val ([44] : Str)).length ≤ 2147483648 := ho47.1
   have hol139 : (g_strings_Split p_w.Val ([44] : Str)).length ≤ 2147483648 := ho47.1
   refine CW.drawsI 15 (vgetI ([.bool ((g_strings_CutPrefix p_w.Key (p_t.Name ++ ([47] : Str))).2), .bool (!((g_strings_CutPrefix p_w.Key (p_t.Name ++ ([47] : Str))).2)), .bool (!((g_strings_CutPrefix p_w.Key (p_t.Name ++ ([47] : Str))).2)), .agg #[.string (bs (p_t.Name)), .slice A1 p_t.Cols.length c1, .slice A2 p_t.Idxs.length c2], .agg #[.slice A58 ((([(g_strings_CutPrefix p_w.Key (p_t.Name ++ ([47] : Str))).1] : List Str) ++ (g_strings_Split p_w.Val ([44] : Str))).length) c59], .bool ((i_Table_isRow p_t (⟨(([(g_strings_CutPrefix p_w.Key (p_t.Name ++ ([47] : Str))).1] : List Str) ++ (g_strings_Split p_w.Val ([44] : Str)))⟩ : DRow))), .bool (!(i_Table_isRow p_t (⟨(([(g_strings_CutPrefix p_w.Key (p_t.Name ++ ([47] : Str))).1] : List Str) ++ (g_strings_Split p_w.Val ([44] : Str)))⟩ : DRow))), .bool (!(i_Table_isRow p_t (⟨(([(g_strings_CutPrefix p_w.Key (p_t.Name ++ ([47] : Str))).1] : List Str) ++ (g_strings_Split p_w.Val ([44] : Str)))⟩ : DRow))), .bool (!(i_Table_isRow p_t (⟨(([(g_strings_CutPrefix p_w.Key (p_t.Name ++ ([47] : Str))).1] : List Str) ++ (g_strings_Split p_w.Val ([44] : Str)))⟩ : DRow))), .agg #[.string (bs (p_w.Key)), .string (bs (p_w.Val)), .bool (p_w.Gone)], .agg #[.string (bs (p_t.Name)), .slice A1 p_t.Cols.length c1, .slice A2 p_t.Idxs.length c2], .agg #[.slice A58 ((([(g_strings_CutPrefix p_w.Key (p_t.Name ++ ([47] : Str))).1] : List Str) ++ (g_strings_Split p_w.Val ([44] : Str))).length) c59], .agg #[.string (bs ((i_Table_rowWrite p_t (⟨(([(g_strings_CutPrefix p_w.Key (p_t.Name ++ ([47] : Str))).1] : List Str) ++ (g_strings_Split p_w.Val ([44] : Str)))⟩ : DRow)).Key)), .string (bs ((i_Table_rowWrite p_t (⟨(([(g_strings_CutPrefix p_w.Key (p_t.Name ++ ([47] : Str))).1] : List Str) ++ (g_strings_Split p_w.Val ([44] : Str)))⟩ : DRow)).Val)), .bool ((i_Table_rowWrite p_t (⟨(([(g_strings_CutPrefix p_w.Key (p_t.Name ++ ([47] : Str))).1] : List Str) ++ (g_strings_Split p_w.Val ([44] : Str)))⟩ : DRow)).Gone)], .bool (!((p_w.Key == ((i_Table_rowWrite p_t (⟨(([(g_strings_CutPrefix p_w.Key (p_t.Name ++ ([47] : Str))).1] : List Str) ++ (g_strings_Split p_w.Val ([44] : Str)))⟩ : DRow)).Key)) && ((p_w.Val == ((i_Table_rowWrite p_t (⟨(([(g_strings_CutPrefix p_w.Key (p_t.Name ++ ([47] : Str))).1] : List Str) ++ (g_strings_Split p_w.Val ([44] : Str)))⟩ : DRow)).Val)) && (p_w.Gone == ((i_Table_rowWrite p_t (⟨(([(g_strings_CutPrefix p_w.Key (p_t.Name ++ ([47] : Str))).1] : List Str) ++ (g_strings_Split p_w.Val ([44] : Str)))⟩ : DRow)).Gone))))), .bool (!((p_w.Key == ((i_Table_rowWrite p_t (⟨(([(g_strings_CutPrefix p_w.Key (p_t.Name ++ ([47] : Str))).1] : List Str) ++ (g_strings_Split p_w.Val ([44] : Str)))⟩ : DRow)).Key)) && ((p_w.Val == ((i_Table_rowWrite p_t (⟨(([(g_strings_CutPrefix p_w.Key (p_t.Name ++ ([47] : Str))).1] : List Str) ++ (g_strings_Split p_w.Val ([44] : Str)))⟩ : DRow)).Val)) && (p_w.Gone == ((i_Table_rowWrite p_t (⟨(([(g_strings_CutPrefix p_w.Key (p_t.Name ++ ([47] : Str))).1] : List Str) ++ (g_strings_Split p_w.Val ([44] : Str)))⟩ : DRow)).Gone)))))].map DetI)) Tryz.follows rfl rfl rfl rfl rfl rfl (vgetI_stable (stD _)) ⟨?_, ?_, ?_, ?_, ?_, ?_, ?_, ?_, ?_, ?_, ?_, ?_, ?_, ?_, ?_, trivial⟩ ?_
   ·exact oI rfl fun h => yl_move rfl (h.old 7 _ rfl rfl) kI
   ·exact oI rfl fun h => yl_not rfl (h.dt 0 25 rfl rfl rfl) kI
   ·exact oI rfl fun h => yl_move rfl (h.dt 1 26 rfl rfl rfl) kI
   ·exact oW rfl rfl rfl rfl (not_t hb74) fun h => yl_loadN ty34 rfl (h.old 2 _ rfl rfl) ((Box.ex q110 h.ex).cells (n := 3) rfl) rfl kI
   ·exact oW rfl rfl rfl rfl (not_t hb74) fun h => yl_loadN ty80 rfl (h.old 8 _ rfl rfl) ((Box.ex hB72 h.ex).cells (n := 1) rfl) rfl kI
   ·intro L170 w171 hi172
    have hE173 := hi172.ex
    have hE173z := Ex.size hE173
    have hol181 : (g_strings_Split p_w.Val ([44] : Str)).length ≤ 2147483648 := ho47.1
    exact OpR.want rfl rfl (hi172.dt 2 27 rfl rfl rfl) (not_t hb74) (yl_call en104 rfl (oc (hi172.dt 3 28 rfl rfl rfl) (oc (hi172.dt 4 29 rfl rfl rfl) oz)) (Cal.mono (c_i_Table_isRow p_t (⟨(([(g_strings_CutPrefix p_w.Key (p_t.Name ++ ([47] : Str))).1] : List Str) ++ (g_strings_Split p_w.Val ([44] : Str)))⟩ : DRow) (RdS.up (RdS.ex good_Str q119 hE173) good_Str) (RdS.up (RdS.ex good_Idx q128 hE173) good_Idx) (RdS.up (OwnL.rd good_Str (OwnL.ex good_Str q131 hE173)) good_Str) o3 (okL.mk (xs := (([(g_strings_CutPrefix p_w.Key (p_t.Name ++ ([47] : Str))).1] : List Str) ++ (g_strings_Split p_w.Val ([44] : Str)))) (by first | omega | (simp only [List.length_append, List.length_cons, List.length_nil, List.length_take, List.length_drop, List.length_replicate, List.length_set, toS_length]; omega)) (okE.append ((okL.mk (Nat.le_of_ble_eq_true rfl) (okE.cons ho33 okE.nil))).2 (ho47).2))) fun _ _ h => h))
   ·exact oW rfl rfl rfl rfl (not_t hb74) fun h => yl_not rfl (h.dt 5 30 rfl rfl rfl) kI
   ·exact oI rfl fun h => yl_pick_f rfl (h.dt 2 27 rfl rfl rfl) (not_t hb74) (h.dt 6 31 rfl rfl rfl) kI
   ·exact oI rfl fun h => yl_move rfl (h.dt 7 32 rfl rfl rfl) kI
   ·intro L202 w203 hi204
    have hE205 := hi204.ex
    have hE205z := Ex.size hE205
    exact OpR.want rfl rfl (hi204.dt 8 33 rfl rfl rfl) (not_t hb104) (Yl.sameI (yl_loadN ty75 rfl (hi204.old 3 _ rfl rfl) ((Box.ex (Box.only (Box.ex (Box.grown (Box.ex q44 hE49) hG63 (fun k hk => by have := hrg64 k hk; omega)) hE70) hO73 (by omega)) hE205).cells (n := 3) rfl) rfl kI))
   ·exact oW rfl rfl rfl rfl (not_t hb104) fun h => yl_loadN ty34 rfl (h.old 2 _ rfl rfl) ((Box.ex q110 h.ex).cells (n := 3) rfl) rfl kI
   ·exact oW rfl rfl rfl rfl (not_t hb104) fun h => yl_loadN ty80 rfl (h.old 8 _ rfl rfl) ((Box.ex hB72 h.ex).cells (n := 1) rfl) rfl kI
   ·intro L223 w224 hi225
    have hE226 := hi225.ex
    have hE226z := Ex.size hE226
    have hol234 : (g_strings_Split p_w.Val ([44] : Str)).length ≤ 2147483648 := ho47.1
    exact OpR.want rfl rfl (hi225.dt 8 33 rfl rfl rfl) (not_t hb104) (yl_call en53 rfl (oc (hi225.dt 10 35 rfl rfl rfl) (oc (hi225.dt 11 36 rfl rfl rfl) oz)) (Cal.mono (c_i_Table_rowWrite p_t (⟨(([(g_strings_CutPrefix p_w.Key (p_t.Name ++ ([47] : Str))).1] : List Str) ++ (g_strings_Split p_w.Val ([44] : Str)))⟩ : DRow) (RdS.up (RdS.ex good_Str q119 hE226) good_Str) (RdS.up (RdS.ex good_Idx q128 hE226) good_Idx) (RdS.up (OwnL.rd good_Str (OwnL.ex good_Str q131 hE226)) good_Str) o3 (okL.mk (xs := (([(g_strings_CutPrefix p_w.Key (p_t.Name ++ ([47] : Str))).1] : List Str) ++ (g_strings_Split p_w.Val ([44] : Str)))) (by first | omega | (simp only [List.length_append, List.length_cons, List.length_nil, List.length_take, List.length_drop, List.length_replicate, List.length_set, toS_length]; omega)) (okE.append ((okL.mk (Nat.le_of_ble_eq_true rfl) (okE.cons ho33 okE.nil))).2 (ho47).2)) (by first | omega | assumption | (simp only [wI] at *; omega) | (simp only [List.length_append, List.length_cons, List.length_nil]; omega)) (by first | omega | assumption | (simp only [wI] at *; omega) | (simp only [List.length_append, List.length_cons, List.length_nil]; omega)) (by first | omega | assumption | (simp only [wI] at *; omega) | (simp only [List.length_append, List.length_cons, List.length_nil]; omega))) fun _ _ h => h))
   ·exact oW rfl rfl rfl rfl (not_t hb104) fun h => yl_aneq (xs := [.string (bs (p_w.Key)), .string (bs (p_w.Val)), .bool (p_w.Gone)]) (ys := [.string (bs ((i_Table_rowWrite p_t (⟨(([(g_strings_CutPrefix p_w.Key (p_t.Name ++ ([47] : Str))).1] : List Str) ++ (g_strings_Split p_w.Val ([44] : Str)))⟩ : DRow)).Key)), .string (bs ((i_Table_rowWrite p_t (⟨(([(g_strings_CutPrefix p_w.Key (p_t.Name ++ ([47] : Str))).1] : List Str) ++ (g_strings_Split p_w.Val ([44] : Str)))⟩ : DRow)).Val)), .bool ((i_Table_rowWrite p_t (⟨(([(g_strings_CutPrefix p_w.Key (p_t.Name ++ ([47] : Str))).1] : List Str) ++ (g_strings_Split p_w.Val ([44] : Str)))⟩ : DRow)).Gone)]) Tryz.ae75 rfl (h.dt 9 34 rfl rfl rfl) (h.dt 12 37 rfl rfl rfl) kI
   ·exact oI rfl fun h => yl_pick_f rfl (h.dt 8 33 rfl rfl rfl) (not_t hb104) (h.dt 13 38 rfl rfl rfl) kI
   ·intro fl254 fh255 L251 w252 hp253
    have hE256 := hp253.ex
    have hE256z := Ex.size hE256
    refine dn (CW.sub (Sub.cons (d := 4) (hp253.old 4 _ rfl rfl) (Sub.cons (d := 8) (hp253.old 8 _ rfl rfl) (Sub.cons (d := 39) (hp253.nt 14 39 rfl rfl rfl) (Sub.nil _)))) (bcase ((p_w.Key == ((i_Table_rowWrite p_t (⟨(([(g_strings_CutPrefix p_w.Key (p_t.Name ++ ([47] : Str))).1] : List Str) ++ (g_strings_Split p_w.Val ([44] : Str)))⟩ : DRow)).Key)) && ((p_w.Val == ((i_Table_rowWrite p_t (⟨(([(g_strings_CutPrefix p_w.Key (p_t.Name ++ ([47] : Str))).1] : List Str) ++ (g_strings_Split p_w.Val ([44] : Str)))⟩ : DRow)).Val)) && (p_w.Gone == ((i_Table_rowWrite p_t (⟨(([(g_strings_CutPrefix p_w.Key (p_t.Name ++ ([47] : Str))).1] : List Str) ++ (g_strings_Split p_w.Val ([44] : Str)))⟩ : DRow)).Gone)))) (fun hb260 => ?_) (fun hb260 => ?_)))
    ·refine CW.cond_f rfl (not_t hb260) (CW.skip (tn (CW.seq (CW.region (sd rfl (yl_loadN ty80 rfl rfl ((Box.ex hB72 hE256).cells (n := 1) rfl) rfl (SeqR.u rfl rfl (yl_store (vs := [.slice A58 ((([(g_strings_CutPrefix p_w.Key (p_t.Name ++ ([47] : Str))).1] : List Str) ++ (g_strings_Split p_w.Val ([44] : Str))).length) c59]) ty80 rfl rfl rfl rfl rfl rfl (Box.ex (Box.only (Box.ex (Box.grown (Box.ex (Box.ex (Box.ex hB26 hE35) hE41) hE49) hG63 (fun k hk => by have := hrg64 k hk; omega)) hE70) hO73 (by omega)) hE256) (Nat.le_of_ble_eq_true rfl) ?_))))))))
     intro w269 hB270 hO271
     have hB270 : Box w269 b22 80 [.slice A58 ((([(g_strings_CutPrefix p_w.Key (p_t.Name ++ ([47] : Str))).1] : List Str) ++ (g_strings_Split p_w.Val ([44] : Str))).length) c59] := hB270
     have hO271z := hO271.size
     refine sd rfl (yl_assign rfl rfl (dn (CW.ret (rr rfl (.cons ⟨_, rfl, run_loadN ty80 (cs := [.slice A58 ((([(g_strings_CutPrefix p_w.Key (p_t.Name ++ ([47] : Str))).1] : List Str) ++ (g_strings_Split p_w.Val ([44] : Str))).length) c59]) rfl (hB270.cells (n := 1) rfl)⟩ (.cons rfl .nil)) ?_))))
     have hM272 : (i_Table_readRow p_t p_w) = (((⟨(([(g_strings_CutPrefix p_w.Key (p_t.Name ++ ([47] : Str))).1] : List Str) ++ (g_strings_Split p_w.Val ([44] : Str)))⟩ : DRow), true)) := by simp only [i_Table_readRow, hb74, hb104, hb260, cL]
     have hol275 : (g_strings_Split p_w.Val ([44] : Str)).length ≤ 2147483648 := ho47.1
     rw [hM272]
     exact ⟨A58, c59, b36, w60.heap.size, rfl, (OwnL.only good_Str (OwnL.ex good_Str q131 hE256) hO271 (by omega)), (okL.mk (xs := (([(g_strings_CutPrefix p_w.Key (p_t.Name ++ ([47] : Str))).1] : List Str) ++ (g_strings_Split p_w.Val ([44] : Str)))) (by first | omega | (simp only [List.length_append, List.length_cons, List.length_nil, List.length_take, List.length_drop, List.length_replicate, List.length_set, toS_length]; omega)) (okE.append ((okL.mk (Nat.le_of_ble_eq_true rfl) (okE.cons ho33 okE.nil))).2 (ho47).2)), (by omega), (Below.only (Ex.trans (Below.only (Ex.trans (Below.grown (Ex.trans (Ex.trans (Ex.trans (Ex.trans (Ex.trans (Ex.trans (Ex.refl w) hE15) hE21) hE27) hE35) hE41) hE49) hG63 (by omega) (fun k hk => by have := hrg64 k hk; omega)) hE70) hO73 (by omega)) hE256) hO271 (by omega))⟩
    ·refine CW.cond_t rfl (not_f hb260) (CW.seq (CW.region (sd rfl (yl_build (cs := [.slice none 0 0]) rfl opvs_nil (by kernel_rfl) (SeqR.u rfl rfl (yl_store (vs := [.slice none 0 0]) ty80 rfl rfl rfl rfl rfl rfl (Box.ex (Box.only (Box.ex (Box.grown (Box.ex (Box.ex (Box.ex hB26 hE35) hE41) hE49) hG63 (fun k hk => by have := hrg64 k hk; omega)) hE70) hO73 (by omega)) hE256) (Nat.le_of_ble_eq_true rfl) ?_))))))
     intro w294 hB295 hO296
     have hB295 : Box w294 b22 80 [.slice none 0 0] := hB295
     have hO296z := hO296.size
     refine sd rfl (yl_assign rfl rfl (dn (CW.ret (tr (rr rfl (.cons ⟨_, rfl, run_loadN ty80 (cs := [.slice none 0 0]) rfl (hB295.cells (n := 1) rfl)⟩ (.cons rfl .nil)) ?_)))))
     have hM297 : (i_Table_readRow p_t p_w) = (((⟨[]⟩ : DRow), false)) := by simp only [i_Table_readRow, hb74, hb104, hb260, cL]
     rw [hM297]
     exact ⟨none, 0, w294.heap.size, w294.heap.size, rfl, (OwnL.nil _ _ _ _ _ _), (okL.nil _), (by omega), (Below.only (Ex.trans (Below.only (Ex.trans (Below.grown (Ex.trans (Ex.trans (Ex.trans (Ex.trans (Ex.trans (Ex.trans (Ex.refl w) hE15) hE21) hE27) hE35) hE41) hE49) hG63 (by omega) (fun k hk => by have := hrg64 k hk; omega)) hE70) hO73 (by omega)) hE256) hO296 (by omega))⟩
  ·have hol336 : (g_strings_Split p_w.Val ([44] : Str)).length ≤ 2147483648 := ho47.1
   refine CW.drawsI 15 (vgetI ([.bool ((g_strings_CutPrefix p_w.Key (p_t.Name ++ ([47] : Str))).2), .bool (!((g_strings_CutPrefix p_w.Key (p_t.Name ++ ([47] : Str))).2)), .bool (!((g_strings_CutPrefix p_w.Key (p_t.Name ++ ([47] : Str))).2)), .agg #[.string (bs (p_t.Name)), .slice A1 p_t.Cols.length c1, .slice A2 p_t.Idxs.length c2], .agg #[.slice A58 ((([(g_strings_CutPrefix p_w.Key (p_t.Name ++ ([47] : Str))).1] : List Str) ++ (g_strings_Split p_w.Val ([44] : Str))).length) c59], .bool ((i_Table_isRow p_t (⟨(([(g_strings_CutPrefix p_w.Key (p_t.Name ++ ([47] : Str))).1] : List Str) ++ (g_strings_Split p_w.Val ([44] : Str)))⟩ : DRow))), .bool (!(i_Table_isRow p_t (⟨(([(g_strings_CutPrefix p_w.Key (p_t.Name ++ ([47] : Str))).1] : List Str) ++ (g_strings_Split p_w.Val ([44] : Str)))⟩ : DRow))), .bool (!(i_Table_isRow p_t (⟨(([(g_strings_CutPrefix p_w.Key (p_t.Name ++ ([47] : Str))).1] : List Str) ++ (g_strings_Split p_w.Val ([44] : Str)))⟩ : DRow))), .bool (!(i_Table_isRow p_t (⟨(([(g_strings_CutPrefix p_w.Key (p_t.Name ++ ([47] : Str))).1] : List Str) ++ (g_strings_Split p_w.Val ([44] : Str)))⟩ : DRow))), undef, undef, undef, undef, undef, .bool (true)].map DetI)) Tryz.follows rfl rfl rfl rfl rfl rfl (vgetI_stable (stD _)) ⟨?_, ?_, ?_, ?_, ?_, ?_, ?_, ?_, ?_, ?_, ?_, ?_, ?_, ?_, ?_, trivial⟩ ?_
   ·exact oI rfl fun h => yl_move rfl (h.old 7 _ rfl rfl) kI
   ·exact oI rfl fun h => yl_not rfl (h.dt 0 25 rfl rfl rfl) kI
   ·exact oI rfl fun h => yl_move rfl (h.dt 1 26 rfl rfl rfl) kI
   ·intro L353 w354 hi355
    have hE356 := hi355.ex
    have hE356z := Ex.size hE356
    exact OpR.want rfl rfl (hi355.dt 2 27 rfl rfl rfl) (not_t hb74) (Yl.sameI (yl_loadN ty34 rfl (hi355.old 2 _ rfl rfl) ((Box.ex (Box.only (Box.ex (Box.grown (Box.ex (Box.ex (Box.ex q30 hE35) hE41) hE49) hG63 (fun k hk => by have := hrg64 k hk; omega)) hE70) hO73 (by omega)) hE356).cells (n := 3) rfl) rfl kI))
   ·exact oW rfl rfl rfl rfl (not_t hb74) fun h => yl_loadN ty80 rfl (h.old 8 _ rfl rfl) ((Box.ex hB72 h.ex).cells (n := 1) rfl) rfl kI
   ·intro L367 w368 hi369
    have hE370 := hi369.ex
    have hE370z := Ex.size hE370
    have hol378 : (g_strings_Split p_w.Val ([44] : Str)).length ≤ 2147483648 := ho47.1
    exact OpR.want rfl rfl (hi369.dt 2 27 rfl rfl rfl) (not_t hb74) (yl_call en104 rfl (oc (hi369.dt 3 28 rfl rfl rfl) (oc (hi369.dt 4 29 rfl rfl rfl) oz)) (Cal.mono (c_i_Table_isRow p_t (⟨(([(g_strings_CutPrefix p_w.Key (p_t.Name ++ ([47] : Str))).1] : List Str) ++ (g_strings_Split p_w.Val ([44] : Str)))⟩ : DRow) (RdS.up (RdS.ex good_Str (RdS.only good_Str (RdS.ex good_Str (RdS.grown good_Str (RdS.ex good_Str (RdS.ex good_Str (RdS.ex good_Str (RdS.ex good_Str (RdS.ex good_Str (RdS.ex good_Str h1 hE15) hE21) hE27) hE35) hE41) hE49) hG63 (fun k hk => by have := hrg64 k hk; simp only [Iv]; omega)) hE70) hO73 (by simp only [Iv]; omega)) hE370) good_Str) (RdS.up (RdS.ex good_Idx (RdS.only good_Idx (RdS.ex good_Idx (RdS.grown good_Idx (RdS.ex good_Idx (RdS.ex good_Idx (RdS.ex good_Idx (RdS.ex good_Idx (RdS.ex good_Idx (RdS.ex good_Idx h2 hE15) hE21) hE27) hE35) hE41) hE49) hG63 (fun k hk => by have := hrg64 k hk; simp only [Iv]; omega)) hE70) hO73 (by simp only [Iv]; omega)) hE370) good_Idx) (RdS.up (OwnL.rd good_Str (OwnL.ex good_Str (OwnL.only good_Str (OwnL.ex good_Str hO62 hE70) hO73 (by omega)) hE370)) good_Str) o3 (okL.mk (xs := (([(g_strings_CutPrefix p_w.Key (p_t.Name ++ ([47] : Str))).1] : List Str) ++ (g_strings_Split p_w.Val ([44] : Str)))) (by first | omega | (simp only [List.length_append, List.length_cons, List.length_nil, List.length_take, List.length_drop, List.length_replicate, List.length_set, toS_length]; omega)) (okE.append ((okL.mk (Nat.le_of_ble_eq_true rfl) (okE.cons ho33 okE.nil))).2 (ho47).2))) fun _ _ h => h))
   ·exact oW rfl rfl rfl rfl (not_t hb74) fun h => yl_not rfl (h.dt 5 30 rfl rfl rfl) kI
   ·exact oI rfl fun h => yl_pick_f rfl (h.dt 2 27 rfl rfl rfl) (not_t hb74) (h.dt 6 31 rfl rfl rfl) kI
   ·exact oI rfl fun h => yl_move rfl (h.dt 7 32 rfl rfl rfl) kI
   ·exact oS rfl rfl rfl rfl rfl (not_f hb104)
   ·exact oS rfl rfl rfl rfl rfl (not_f hb104)
   ·exact oS rfl rfl rfl rfl rfl (not_f hb104)
   ·exact oS rfl rfl rfl rfl rfl (not_f hb104)
   ·exact oS rfl rfl rfl rfl rfl (not_f hb104)
   ·exact oI rfl fun h => yl_pick_t rfl (h.dt 8 33 rfl rfl rfl) (not_f hb104) rfl kI
   ·intro fl433 fh434 L430 w431 hp432
    have hE435 := hp432.ex
    have hE435z := Ex.size hE435
    refine dn (CW.sub (Sub.cons (d := 4) (hp432.old 4 _ rfl rfl) (Sub.cons (d := 8) (hp432.old 8 _ rfl rfl) (Sub.cons (d := 39) (hp432.nt 14 39 rfl rfl rfl) (Sub.nil _)))) (CW.cond_t rfl rfl (CW.seq (CW.region (sd rfl (yl_build (cs := [.slice none 0 0]) rfl opvs_nil (by kernel_rfl) (SeqR.u rfl rfl (yl_store (vs := [.slice none 0 0]) ty80 rfl rfl rfl rfl rfl rfl (Box.ex (Box.only (Box.ex (Box.grown (Box.ex (Box.ex (Box.ex hB26 hE35) hE41) hE49) hG63 (fun k hk => by have := hrg64 k hk; omega)) hE70) hO73 (by omega)) hE435) (Nat.le_of_ble_eq_true rfl) ?_))))))))
    intro w446 hB447 hO448
    have hB447 : Box w446 b22 80 [.slice none 0 0] := hB447
    have hO448z := hO448.size
    refine sd rfl (yl_assign rfl rfl (dn (CW.ret (tr (rr rfl (.cons ⟨_, rfl, run_loadN ty80 (cs := [.slice none 0 0]) rfl (hB447.cells (n := 1) rfl)⟩ (.cons rfl .nil)) ?_)))))
    have hM449 : (i_Table_readRow p_t p_w) = (((⟨[]⟩ : DRow), false)) := by simp only [i_Table_readRow, hb74, hb104, cL]
    rw [hM449]
    exact ⟨none, 0, w446.heap.size, w446.heap.size, rfl, (OwnL.nil _ _ _ _ _ _), (okL.nil _), (by omega), (Below.only (Ex.trans (Below.only (Ex.trans (Below.grown (Ex.trans (Ex.trans (Ex.trans (Ex.trans (Ex.trans (Ex.trans (Ex.refl w) hE15) hE21) hE27) hE35) hE41) hE49) hG63 (by omega) (fun k hk => by have := hrg64 k hk; omega)) hE70) hO73 (by omega)) hE435) hO448 (by omega))⟩
 ·refine CW.drawsI 15 (vgetI ([.bool ((g_strings_CutPrefix p_w.Key (p_t.Name ++ ([47] : Str))).2), .bool (!((g_strings_CutPrefix p_w.Key (p_t.Name ++ ([47] : Str))).2)), .bool (!((g_strings_CutPrefix p_w.Key (p_t.Name ++ ([47] : Str))).2)), undef, undef, undef, undef, .bool (true), .bool (true), undef, undef, undef, undef, undef, .bool (true)].map DetI)) Tryz.follows rfl rfl rfl rfl rfl rfl (vgetI_stable (stD _)) ⟨?_, ?_, ?_, ?_, ?_, ?_, ?_, ?_, ?_, ?_, ?_, ?_, ?_, ?_, ?_, trivial⟩ ?_
  ·exact oI rfl fun h => yl_move rfl (h.old 7 _ rfl rfl) kI
  ·exact oI rfl fun h => yl_not rfl (h.dt 0 25 rfl rfl rfl) kI
  ·exact oI rfl fun h => yl_move rfl (h.dt 1 26 rfl rfl rfl) kI
  ·exact oS rfl rfl rfl rfl rfl (not_f hb74)
  ·exact oS rfl rfl rfl rfl rfl (not_f hb74)
  ·exact oS rfl rfl rfl rfl rfl (not_f hb74)
  ·exact oS rfl rfl rfl rfl rfl (not_f hb74)
  ·exact oI rfl fun h => yl_pick_t rfl (h.dt 2 27 rfl rfl rfl) (not_f hb74) rfl kI
  ·exact oI rfl fun h => yl_move rfl (h.dt 7 32 rfl rfl rfl) kI
  ·exact oS rfl rfl rfl rfl rfl rfl
  ·exact oS rfl rfl rfl rfl rfl rfl
  ·exact oS rfl rfl rfl rfl rfl rfl
  ·exact oS rfl rfl rfl rfl rfl rfl
  ·exact oS rfl rfl rfl rfl rfl rfl
  ·exact oI rfl fun h => yl_pick_t rfl (h.dt 8 33 rfl rfl rfl) rfl rfl kI
  ·intro fl541 fh542 L538 w539 hp540
   have hE543 := hp540.ex
   have hE543z := Ex.size hE543
   refine dn (CW.sub (Sub.cons (d := 4) (hp540.old 4 _ rfl rfl) (Sub.cons (d := 8) (hp540.old 8 _ rfl rfl) (Sub.cons (d := 39) (hp540.nt 14 39 rfl rfl rfl) (Sub.nil _)))) (CW.cond_t rfl rfl (CW.seq (CW.region (sd rfl (yl_build (cs := [.slice none 0 0]) rfl opvs_nil (by kernel_rfl) (SeqR.u rfl rfl (yl_store (vs := [.slice none 0 0]) ty80 rfl rfl rfl rfl rfl rfl (Box.ex (Box.only (Box.ex (Box.grown (Box.ex (Box.ex (Box.ex hB26 hE35) hE41) hE49) hG63 (fun k hk => by have := hrg64 k hk; omega)) hE70) hO73 (by omega)) hE543) (Nat.le_of_ble_eq_true rfl) ?_))))))))
   intro w554 hB555 hO556
   have hB555 : Box w554 b22 80 [.slice none 0 0] := hB555
   have hO556z := hO556.size
   refine sd rfl (yl_assign rfl rfl (dn (CW.ret (tr (rr rfl (.cons ⟨_, rfl, run_loadN ty80 (cs := [.slice none 0 0]) rfl (hB555.cells (n := 1) rfl)⟩ (.cons rfl .nil)) ?_)))))
   have hM557 : (i_Table_readRow p_t p_w) = (((⟨[]⟩ : DRow), false)) := by simp only [i_Table_readRow, hb74, cL]
   rw [hM557]
   exact ⟨none, 0, w554.heap.size, w554.heap.size, rfl, (OwnL.nil _ _ _ _ _ _), (okL.nil _), (by omega), (Below.only (Ex.trans (Below.only (Ex.trans (Below.grown (Ex.trans (Ex.trans (Ex.trans (Ex.trans (Ex.trans (Ex.trans (Ex.refl w) hE15) hE21) hE27) hE35) hE41) hE49) hG63 (by omega) (fun k hk => by have := hrg64 k hk; omega)) hE70) hO73 (by omega)) hE543) hO556 (by omega))⟩
theorem c_i_Table_rowsIn {A1 : Option Addr} {c1 : Nat} {A2 : Option Addr} {c2 : Nat} {A4 : Option Addr} {c4 : Nat} {w : World} (p_t : DTable) (p_store : List DWrite) (h1 : RdS w (Iv 0 w.heap.size) (RF e_Str) 1 A1 p_t.Cols.length c1 p_t.Cols) (h2 : RdS w (Iv 0 w.heap.size) (RF e_Idx) 3 A2 p_t.Idxs.length c2 p_t.Idxs) (h4 : RdS w (Iv 0 w.heap.size) (RF e_Write) 3 A4 p_store.length c4 p_store) (o3 : ok_Table p_t) (o5 : (okL ok_Write) p_store) (pre0 : s_GoodTable p_t = true) : Cal Tryz.prog 34 #[.agg #[.string (bs (p_t.Name)), .slice A1 p_t.Cols.length c1, .slice A2 p_t.Idxs.length c2], .slice A4 p_store.length c4] w fun v w' => ∃ A_1 c_1 lo_1 hi_1, v = .slice A_1 ((i_Table_rowsIn p_t p_store).length) c_1 ∧ OwnD w' lo_1 hi_1 80 1 RO_Row A_1 ((i_Table_rowsIn p_t p_store).length) c_1 (i_Table_rowsIn p_t p_store) ∧ (okL ok_Row) (i_Table_rowsIn p_t p_store) ∧ (w.heap.size ≤ lo_1 ∧ lo_1 ≤ hi_1 ∧ hi_1 ≤ w'.heap.size) ∧ Ex w w' := by
 have hol6 : p_t.Name.length ≤ 1073741824 := o3.1
 have hol7 := o3.2.1.1
 have hol8 := o3.2.2.1
 have hol9 := o5.1
 refine Cal.of func34 rfl ntmps34 rfl (CW.seq (CW.region (sd rfl (yl_box rfl rfl rfl ?_))))
 intro b10 w11 hs12 hz13 hB14 hE15
 refine sd rfl (yl_assign rfl rfl (dn (CW.seq (CW.region (sd rfl (yl_buildSlice (cs := []) un29 ty80 (by decide) rfl opvs_nil (by kernel_rfl) ?_))))))
 intro b16 w17 hs18 hz19 hB20 hE21
 have hO22 : OwnL w17 b16 (b16 + 1) 80 1 R_Row (some ⟨b16, 0, none⟩) 0 0 ([] : List DRow) := OwnL.of_box (S := fun _ => False) hB20 (Nat.le_refl _) (Nat.lt_succ_self _) EncL.nil (Nat.le_of_ble_eq_true rfl) (fun h => h) (fun _ h => False.elim h)
 refine sd rfl (yl_assign rfl rfl (dn (CW.seq (CW.seq (CW.region (sd rfl (yl_move rfl rfl (sd rfl (yl_len un36 rfl rfl (sd rfl (yl_move rfl rfl ?_)))))))))))
 refine dn (CW.block (CW.loop (fun m109 L110 w111 => ∃ (k23 : Nat) (x105 : List DRow) (A106 : Option Addr) (c107 : Nat) (u108 : Nat), m109 = p_store.length - k23 ∧ k23 ≤ p_store.length ∧ w17.heap.size ≤ w111.heap.size ∧ lkp L110 2 = some (.pointer (some ⟨b10, 0, none⟩)) ∧ lkp L110 5 = some (.slice A106 x105.length c107) ∧ lkp L110 11 = some (.slice A4 p_store.length c4) ∧ lkp L110 12 = some (.int .i64 ((p_store.length : Int))) ∧ lkp L110 13 = some (.int .i64 ((k23 : Int))) ∧ Box w111 b10 34 [.string (bs (p_t.Name)), .slice A1 p_t.Cols.length c1, .slice A2 p_t.Idxs.length c2] ∧ RdS w111 (Iv 0 w.heap.size) (RF e_Str) 1 A1 p_t.Cols.length c1 p_t.Cols ∧ RdS w111 (Iv 0 w.heap.size) (RF e_Idx) 3 A2 p_t.Idxs.length c2 p_t.Idxs ∧ OwnD w111 b16 u108 80 1 RO_Row A106 x105.length c107 x105 ∧ RdS w111 (Iv 0 w.heap.size) (RF e_Write) 3 A4 p_store.length c4 p_store ∧ Ex w w111 ∧ (b16 ≤ u108 ∧ u108 ≤ w111.heap.size) ∧ x105.length ≤ 0 + 1 * (k23 - 0) ∧ (∀ y ∈ x105, ok_Row y) ∧ loopM (B_i_Table_rowsIn_0 p_t p_store) (p_store.length - k23) k23 (x105) = loopM (B_i_Table_rowsIn_0 p_t p_store) (p_store.length - 0) 0 (([] : List DRow))) (p_store.length - 0) ?_ ?_))
 ·exact ⟨0, ([] : List DRow), (some ⟨b16, 0, none⟩), 0, (b16 + 1), rfl, (by omega), Nat.le_refl _, rfl, rfl, rfl, rfl, rfl, (Box.ex hB14 hE21), (RdS.ex good_Str (RdS.ex good_Str h1 hE15) hE21), (RdS.ex good_Idx (RdS.ex good_Idx h2 hE15) hE21), (OwnD.empty w17 b16 (b16 + 1) 80 1 RO_Row (some ⟨b16, 0, none⟩)), (RdS.ex good_Write (RdS.ex good_Write h4 hE15) hE21), (Ex.trans (Ex.trans (Ex.refl w) hE15) hE21), (by omega), (by first | (simp; done) | (first | omega | (simp only [List.length_append, List.length_cons, List.length_nil, List.length_set, toS_length]; omega))), okE.nil, rfl⟩
 ·rintro m121 L122 w123 ⟨k23, x105, A106, c107, u108, rfl, hk124, hsz126, hl127, hl128, hl129, hl130, hl131, hf132, hf133, hf134, hf135, hf136, hf137, hu138, hln139, hok140, hI125⟩
  refine CW.sub (Sub.cons hl127 (Sub.cons hl128 (Sub.cons hl129 (Sub.cons hl130 (Sub.cons hl131 (Sub.nil _)))))) ?_
  have hf132z := Box.lt hf132
  have hf137z := Ex.size hf137
  have hbg141 := RdS.big hf136
  rcases Nat.lt_or_ge k23 p_store.length with hlt142 | hlt142
  ·refine CW.seq (CW.region (sd rfl (yl_lss rfl rfl rfl (dn (CW.seq (CW.cond_t rfl (lt_t hlt142) (CW.skip (tn ?_))))))))
   refine CW.seq (CW.block (CW.seq (CW.region ?_)))
   obtain ⟨eb143, eo143, _, eA143, _, ebl143, _, eR143, eC143⟩ := RdS.aD hf136 d_Write (i := k23)
   obtain rfl := eR143
   have eC143 : Cells w123 eb143 (eo143 + k23 * 3) [.string (bs ((p_store.getD k23 d_Write).Key)), .string (bs ((p_store.getD k23 d_Write).Val)), .bool ((p_store.getD k23 d_Write).Gone)] := eC143
   refine sd rfl (yl_ixN un36 ty75 rfl rfl rfl eA143 (sd rfl (yl_loadN ty75 rfl rfl eC143 rfl (sd rfl (yl_alloc ty75 (cs := [.string (bs (([] : Str))), .string (bs (([] : Str))), .bool (false)]) rfl rfl ?_)))))
   intro b144 w145 hs146 hz147 hB148 hE149
   refine SeqR.u rfl rfl (yl_store (vs := [.string (bs ((p_store.getD k23 d_Write).Key)), .string (bs ((p_store.getD k23 d_Write).Val)), .bool ((p_store.getD k23 d_Write).Gone)]) ty75 rfl rfl rfl rfl rfl rfl hB148 (Nat.le_of_ble_eq_true rfl) ?_)
   intro w150 hB151 hO152
   have hB151 : Box w150 b144 75 [.string (bs ((p_store.getD k23 d_Write).Key)), .string (bs ((p_store.getD k23 d_Write).Val)), .bool ((p_store.getD k23 d_Write).Gone)] := hB151
   have hO152z := hO152.size
   refine dn (CW.seq (CW.region ?_))
   have q154 := Box.only (Box.ex hf132 hE149) hO152 (by omega)
   refine sd rfl (yl_loadN ty34 rfl rfl (q154.cells (n := 3) rfl) rfl (sd rfl (yl_loadN ty75 rfl rfl (hB151.cells (n := 3) rfl) rfl ?_)))
   have q156 := RdS.only good_Str (RdS.ex good_Str hf133 hE149) hO152 (by simp only [Iv]; omega)
   have q158 := RdS.only good_Idx (RdS.ex good_Idx hf134 hE149) hO152 (by simp only [Iv]; omega)
   refine sd rfl (yl_call en71 rfl (oc rfl (oc rfl oz)) (Cal.mono (c_i_Table_readRow p_t (p_store.getD k23 d_Write) (RdS.up q156 good_Str) (RdS.up q158 good_Idx) o3 (okL.getD o5 ok_d_Write _) (by first | omega | assumption | (simp only [wI] at *; omega))) ?_))
   rintro v162 w159 ⟨A160, c160, lo160, hi160, rfl, h160, ho161, hrn164, hE163⟩
   have hE163z := Ex.size hE163
   refine sd rfl (yl_move rfl rfl (sd rfl (yl_extract rfl rfl rfl (sd rfl (yl_extract rfl rfl rfl (sd rfl (yl_alloc ty80 (cs := [.slice none 0 0]) rfl rfl ?_)))))))
   intro b165 w166 hs167 hz168 hB169 hE170
   refine SeqR.u rfl rfl (yl_store (vs := [.slice A160 (((i_Table_readRow p_t (p_store.getD k23 d_Write)).1.Vals).length) c160]) ty80 rfl rfl rfl rfl rfl rfl hB169 (Nat.le_of_ble_eq_true rfl) ?_)
   intro w171 hB172 hO173
   have hB172 : Box w171 b165 80 [.slice A160 (((i_Table_readRow p_t (p_store.getD k23 d_Write)).1.Vals).length) c160] := hB172
   have hO173z := hO173.size
   refine sd rfl (yl_assign rfl rfl (dn (CW.seq (CW.region (sd rfl (yl_move rfl rfl (dn (bcase ((i_Table_readRow p_t (p_store.getD k23 d_Write)).2) (fun hb174 => ?_) (fun hb174 => ?_)))))))))
   ·refine CW.cond_t rfl hb174 (CW.region (sd rfl (yl_move rfl rfl (sd rfl (yl_loadN ty80 rfl rfl (hB172.cells (n := 1) rfl) rfl (sd rfl (yl_buildSlice (cs := [.slice A160 (((i_Table_readRow p_t (p_store.getD k23 d_Write)).1.Vals).length) c160]) un29 ty80 (by decide) rfl (oc rfl oz) (by kernel_rfl) ?_)))))))
    intro b175 w176 hs177 hz178 hB179 hE180
    have hO181 : OwnD w176 w150.heap.size (b175 + 1) 80 1 RO_Row (some ⟨b175, 0, none⟩) 1 1 ([(i_Table_readRow p_t (p_store.getD k23 d_Write)).1] : List DRow) := OwnD.of_box (b := b175) (xs := ([(i_Table_readRow p_t (p_store.getD k23 d_Write)).1] : List DRow)) (cells := [[.slice A160 (((i_Table_readRow p_t (p_store.getD k23 d_Write)).1.Vals).length) c160]]) (by rw [List.flatten_singleton]; exact hB179) (by omega) (Nat.lt_succ_self _) (.cons (l := w150.heap.size) (h := b175) (Nat.le_refl _) (by omega) rfl (fun k hk => by cases hk; exact .inr (Nat.le_refl _)) (mkO_Row (l := w150.heap.size) (h := b175) (OwnL.ex good_Str (OwnL.only good_Str (OwnL.ex good_Str h160 hE170) hO173 (by omega)) hE180) (by omega)) (.nil (Nat.le_succ _))) (Nat.le_of_ble_eq_true rfl)
    refine sd rfl (yl_appendD (xs := x105) (ys := ([(i_Table_readRow p_t (p_store.getD k23 d_Write)).1] : List DRow)) goodO_Row un29 ty80 rfl (Nat.le_of_ble_eq_true rfl) rfl rfl rfl (OwnD.ex goodO_Row (OwnD.only goodO_Row (OwnD.ex goodO_Row (OwnD.ex goodO_Row (OwnD.only goodO_Row (OwnD.ex goodO_Row hf135 hE149) hO152 (by omega)) hE163) hE170) hO173 (by omega)) hE180) hO181 (by first | omega | (simp only [List.length_append, List.length_cons, List.length_nil, List.length_take, List.length_drop, List.length_replicate, List.length_set, toS_length]; omega)) (by first | omega | (simp only [List.length_append, List.length_cons, List.length_nil, List.length_take, List.length_drop, List.length_replicate, List.length_set, toS_length]; omega)) (by omega) (by omega) (by omega) (by omega) ?_)
    intro A190 c191 w192 row193 hO194 hG195 hrg196
    have hG195z := hG195.size
    refine sd rfl (yl_assign rfl rfl (SeqR.done (bn (tn (CW.region (sd rfl (yl_inc rfl rfl rfl (by omega) (sd rfl (yl_move rfl rfl (dn ?_))))))))))
    have hB197 : B_i_Table_rowsIn_0 p_t p_store k23 (x105) = .cont ((x105 ++ ([(i_Table_readRow p_t (p_store.getD k23 d_Write)).1] : List DRow))) := by simp only [B_i_Table_rowsIn_0, hb174, cL]
    exact ⟨p_store.length - (k23 + 1), by omega, k23 + 1, (x105 ++ ([(i_Table_readRow p_t (p_store.getD k23 d_Write)).1] : List DRow)), A190, c191, w192.heap.size, rfl, hlt142, (by omega), rfl, rfl, rfl, rfl, rfl, (Box.grown (Box.ex (Box.only (Box.ex (Box.ex q154 hE163) hE170) hO173 (by omega)) hE180) hG195 (fun k hk => by have := hrg196 k hk; omega)), (RdS.grown good_Str (RdS.ex good_Str (RdS.only good_Str (RdS.ex good_Str (RdS.ex good_Str q156 hE163) hE170) hO173 (by simp only [Iv]; omega)) hE180) hG195 (fun k hk => by have := hrg196 k hk; simp only [Iv]; omega)), (RdS.grown good_Idx (RdS.ex good_Idx (RdS.only good_Idx (RdS.ex good_Idx (RdS.ex good_Idx q158 hE163) hE170) hO173 (by simp only [Iv]; omega)) hE180) hG195 (fun k hk => by have := hrg196 k hk; simp only [Iv]; omega)), hO194, (RdS.grown good_Write (RdS.ex good_Write (RdS.only good_Write (RdS.ex good_Write (RdS.ex good_Write (RdS.only good_Write (RdS.ex good_Write hf136 hE149) hO152 (by simp only [Iv]; omega)) hE163) hE170) hO173 (by simp only [Iv]; omega)) hE180) hG195 (fun k hk => by have := hrg196 k hk; simp only [Iv]; omega)), (Below.grown (Ex.trans (Below.only (Ex.trans (Ex.trans (Below.only (Ex.trans hf137 hE149) hO152 (by omega)) hE163) hE170) hO173 (by omega)) hE180) hG195 (by omega) (fun k hk => by have := hrg196 k hk; omega)), (by omega), (by first | omega | (simp only [List.length_append, List.length_cons, List.length_nil, List.length_set, toS_length]; omega)), (okE.append hok140 ((okL.mk (Nat.le_of_ble_eq_true rfl) (okE.cons ho161 okE.nil))).2), (loopM.cont hlt142 hB197).symm.trans hI125⟩
   ·refine CW.cond_f rfl hb174 (CW.skip (bn (tn (CW.region (sd rfl (yl_inc rfl rfl rfl (by omega) (sd rfl (yl_move rfl rfl (dn ?_)))))))))
    have hB227 : B_i_Table_rowsIn_0 p_t p_store k23 (x105) = .cont (x105) := by simp only [B_i_Table_rowsIn_0, hb174, cL]
    exact ⟨p_store.length - (k23 + 1), by omega, k23 + 1, x105, A106, c107, u108, rfl, hlt142, (by omega), rfl, rfl, rfl, rfl, rfl, (Box.only (Box.ex (Box.ex q154 hE163) hE170) hO173 (by omega)), (RdS.only good_Str (RdS.ex good_Str (RdS.ex good_Str q156 hE163) hE170) hO173 (by simp only [Iv]; omega)), (RdS.only good_Idx (RdS.ex good_Idx (RdS.ex good_Idx q158 hE163) hE170) hO173 (by simp only [Iv]; omega)), (OwnD.only goodO_Row (OwnD.ex goodO_Row (OwnD.ex goodO_Row (OwnD.only goodO_Row (OwnD.ex goodO_Row hf135 hE149) hO152 (by omega)) hE163) hE170) hO173 (by omega)), (RdS.only good_Write (RdS.ex good_Write (RdS.ex good_Write (RdS.only good_Write (RdS.ex good_Write hf136 hE149) hO152 (by simp only [Iv]; omega)) hE163) hE170) hO173 (by simp only [Iv]; omega)), (Below.only (Ex.trans (Ex.trans (Below.only (Ex.trans hf137 hE149) hO152 (by omega)) hE163) hE170) hO173 (by omega)), (by omega), (by first | omega | (simp only [List.length_append, List.length_cons, List.length_nil, List.length_set, toS_length]; omega)), hok140, (loopM.cont hlt142 hB227).symm.trans hI125⟩
  ·refine CW.seq (CW.region (sd rfl (yl_lss rfl rfl rfl (dn (CW.seq (CW.cond_f rfl (lt_f hlt142) (CW.exit (tx ?_))))))))
   refine tx ?_
   have hL252 : loopM (B_i_Table_rowsIn_0 p_t p_store) (p_store.length - 0) 0 (([] : List DRow)) = .done (x105) := hI125.symm.trans (loopM.stop hlt142)
   refine bx (tn (CW.seq (CW.region (sd rfl (yl_move rfl rfl (sd rfl (yl_assign rfl rfl (dn (CW.ret ?_)))))))))
   refine rr rfl (.cons rfl .nil) ?_
   have hM253 : (i_Table_rowsIn p_t p_store) = (x105) := by simp only [i_Table_rowsIn, hL252, cL]
   rw [hM253]
   exact ⟨A106, c107, b16, u108, rfl, hf135, (okL.mk (xs := x105) (by first | omega | (simp only [List.length_append, List.length_cons, List.length_nil, List.length_take, List.length_drop, List.length_replicate, List.length_set, toS_length]; omega)) hok140), (by omega), hf137⟩
theorem c_g_slices_IndexFunc_Write {A1 : Option Addr} {c1 : Nat} {g3 : Nat} {cp4 : List Value} {w : World} (p_s : List DWrite) (p_f : DWrite → Bool) (h1 : RdS w (Iv 0 w.heap.size) (RF e_Write) 3 A1 p_s.length c1 p_s) (hen5 : Go.X.Enters Tryz.prog g3) (hfn6 : ∀ (w1 : World) (y0 : DWrite), Ex w w1 → y0 ∈ p_s → ok_Write y0 → Cal Tryz.prog g3 (([.agg #[.string (bs (y0.Key)), .string (bs (y0.Val)), .bool (y0.Gone)]] : List Value) ++ cp4).toArray w1 fun v w2 => v = .bool (p_f y0) ∧ Ex w1 w2) (o2 : (okL ok_Write) p_s) : Cal Tryz.prog 101 #[.slice A1 p_s.length c1, .func (.func g3) #[] cp4.toArray] w fun v w' => v = .int .i64 ((g_slices_IndexFunc_Write p_s p_f)) ∧ Ex w w' := by
 have hol7 := o2.1
 refine Cal.of func101 rfl ntmps101 rfl (CW.seq (CW.region (sd rfl (yl_assign rfl rfl (dn (CW.seq (CW.seq (CW.region ?_))))))))
 refine sd rfl (yl_move rfl rfl (sd rfl (yl_len un36 rfl rfl (sd rfl (yl_move rfl rfl (dn (CW.block (CW.loop (fun m9 L10 w11 => ∃ (k8 : Nat), m9 = p_s.length - k8 ∧ k8 ≤ p_s.length ∧ w.heap.size ≤ w11.heap.size ∧ lkp L10 0 = some (.slice A1 p_s.length c1) ∧ lkp L10 1 = some (.func (.func g3) #[] cp4.toArray) ∧ lkp L10 7 = some (.int .i64 ((p_s.length : Int))) ∧ lkp L10 8 = some (.int .i64 ((k8 : Int))) ∧ RdS w11 (Iv 0 w.heap.size) (RF e_Write) 3 A1 p_s.length c1 p_s ∧ Ex w w11 ∧ loopM (B_g_slices_IndexFunc_Write_0 p_s p_f) (p_s.length - k8) k8 () = loopM (B_g_slices_IndexFunc_Write_0 p_s p_f) (p_s.length - 0) 0 ()) (p_s.length - 0) ?_ ?_))))))))
 ·exact ⟨0, rfl, (by omega), Nat.le_refl _, rfl, rfl, rfl, rfl, h1, (Ex.refl w), rfl⟩
 ·rintro m12 L13 w14 ⟨k8, rfl, hk15, hsz17, hl18, hl19, hl20, hl21, hf22, hf23, hI16⟩
  refine CW.sub (Sub.cons hl18 (Sub.cons hl19 (Sub.cons hl20 (Sub.cons hl21 (Sub.nil _))))) ?_
  have hf23z := Ex.size hf23
  have hbg24 := RdS.big hf22
  rcases Nat.lt_or_ge k8 p_s.length with hlt25 | hlt25
  ·refine CW.seq (CW.region (sd rfl (yl_lss rfl rfl rfl (dn (CW.seq (CW.cond_t rfl (lt_t hlt25) (CW.skip (tn ?_))))))))
   refine CW.seq (CW.block (CW.seq (CW.region (sd rfl (yl_move rfl rfl (sd rfl (yl_assign rfl rfl (dn (CW.seq ?_)))))))))
   refine CW.region (sd rfl (yl_move rfl rfl (sd rfl (yl_move rfl rfl (sd rfl (yl_move rfl rfl ?_))))))
   obtain ⟨eb26, eo26, _, eA26, _, ebl26, _, eR26, eC26⟩ := RdS.aD hf22 d_Write (i := k8)
   obtain rfl := eR26
   have eC26 : Cells w14 eb26 (eo26 + k8 * 3) [.string (bs ((p_s.getD k8 d_Write).Key)), .string (bs ((p_s.getD k8 d_Write).Val)), .bool ((p_s.getD k8 d_Write).Gone)] := eC26
   refine sd rfl (yl_ixN un36 ty75 rfl rfl rfl eA26 (sd rfl (yl_loadN ty75 rfl rfl eC26 rfl (sd rfl (yl_callv hen5 rfl rfl (oc rfl oz) (Cal.mono (hfn6 w14 (p_s.getD k8 d_Write) hf23 (getD_mem (by omega)) (okL.getD o2 ok_d_Write _)) ?_))))))
   rintro v28 w27 ⟨rfl, hE29⟩
   have hE29z := Ex.size hE29
   refine dn (bcase (p_f (p_s.getD k8 d_Write)) (fun hb30 => ?_) (fun hb30 => ?_))
   ·refine CW.cond_t rfl hb30 (CW.seq (CW.region (sd rfl (yl_move rfl rfl (sd rfl (yl_assign rfl rfl (dn (CW.ret (br ?_)))))))))
    refine tr (tr ?_)
    have hB32 : B_g_slices_IndexFunc_Write_0 p_s p_f k8 () = .ret (k8 : Int) := by simp only [B_g_slices_IndexFunc_Write_0, hb30, cL]
    have hL31 : loopM (B_g_slices_IndexFunc_Write_0 p_s p_f) (p_s.length - 0) 0 () = .ret (k8 : Int) := hI16.symm.trans (loopM.ret hlt25 hB32)
    refine br (tr (rr rfl (.cons rfl .nil) ?_))
    have hM33 : (g_slices_IndexFunc_Write p_s p_f) = ((k8 : Int)) := by simp only [g_slices_IndexFunc_Write, hb30, hL31, cL]
    rw [hM33]
    exact ⟨rfl, (Ex.trans hf23 hE29)⟩
   ·refine CW.cond_f rfl hb30 (CW.skip (bn (tn (CW.region (sd rfl (yl_inc rfl rfl rfl (by omega) (sd rfl (yl_move rfl rfl (dn ?_)))))))))
    have hB35 : B_g_slices_IndexFunc_Write_0 p_s p_f k8 () = .cont () := by simp only [B_g_slices_IndexFunc_Write_0, hb30, cL]
    exact ⟨p_s.length - (k8 + 1), by omega, k8 + 1, rfl, hlt25, (by omega), rfl, rfl, rfl, rfl, (RdS.ex good_Write hf22 hE29), (Ex.trans hf23 hE29), (loopM.cont hlt25 hB35).symm.trans hI16⟩
  ·refine CW.seq (CW.region (sd rfl (yl_lss rfl rfl rfl (dn (CW.seq (CW.cond_f rfl (lt_f hlt25) (CW.exit (tx ?_))))))))
   refine tx ?_
   have hL38 : loopM (B_g_slices_IndexFunc_Write_0 p_s p_f) (p_s.length - 0) 0 () = .done () := hI16.symm.trans (loopM.stop hlt25)
   refine bx (tn (CW.seq (CW.region (sd rfl (yl_assign rfl rfl (dn (CW.ret (rr rfl (.cons rfl .nil) ?_))))))))
   have hM39 : (g_slices_IndexFunc_Write p_s p_f) = (-1) := by simp only [g_slices_IndexFunc_Write, hL38, cL]
   rw [hM39]
   exact ⟨rfl, hf23⟩
theorem c_g_slices_ContainsFunc_Write {A1 : Option Addr} {c1 : Nat} {g3 : Nat} {cp4 : List Value} {w : World} (p_s : List DWrite) (p_f : DWrite → Bool) (h1 : RdS w (Iv 0 w.heap.size) (RF e_Write) 3 A1 p_s.length c1 p_s) (hen5 : Go.X.Enters Tryz.prog g3) (hfn6 : ∀ (w1 : World) (y0 : DWrite), Ex w w1 → y0 ∈ p_s → ok_Write y0 → Cal Tryz.prog g3 (([.agg #[.string (bs (y0.Key)), .string (bs (y0.Val)), .bool (y0.Gone)]] : List Value) ++ cp4).toArray w1 fun v w2 => v = .bool (p_f y0) ∧ Ex w1 w2) (o2 : (okL ok_Write) p_s) : Cal Tryz.prog 69 #[.slice A1 p_s.length c1, .func (.func g3) #[] cp4.toArray] w fun v w' => v = .bool ((g_slices_ContainsFunc_Write p_s p_f)) ∧ Ex w w' := by
 refine Cal.of func69 rfl ntmps69 rfl (CW.seq (CW.region (sd rfl (yl_assign rfl rfl (dn (CW.seq (CW.region (sd rfl (yl_move rfl rfl ?_)))))))))
 refine sd rfl (yl_move rfl rfl (sd rfl (yl_call en101 rfl (oc rfl (oc rfl oz)) (Cal.mono (c_g_slices_IndexFunc_Write p_s p_f (RdS.up h1 good_Write) hen5 (fun w1 y0 => fun hE => hfn6 w1 y0 (Ex.trans (Ex.refl w) hE)) o2) ?_))))
 rintro v9 w8 ⟨rfl, hE10⟩
 refine sd rfl (yl_geq rfl rfl rfl (sd rfl (yl_assign rfl rfl (dn (CW.ret (rr rfl (.cons rfl .nil) ?_))))))
 have hM11 : (g_slices_ContainsFunc_Write p_s p_f) = (decide (0 ≤ (g_slices_IndexFunc_Write p_s p_f))) := by simp only [g_slices_ContainsFunc_Write, cL]
 rw [hM11]
 exact ⟨rfl, (Ex.trans (Ex.refl w) hE10)⟩
theorem c_i_GoodKey {w : World} (p_s : Str) (o1 : okS p_s) : Cal Tryz.prog 119 #[.string (bs (p_s))] w fun v w' => v = .bool ((i_GoodKey p_s)) ∧ Ex w w' := by
 refine Cal.of func119 rfl ntmps119 rfl (CW.seq (CW.region (sd rfl (yl_assign rfl rfl (dn (CW.seq (CW.region (sd rfl (yl_move rfl rfl ?_)))))))))
 refine sd rfl (yl_slen un9 (a := p_s) rfl rfl (sd rfl (yl_call en66 rfl (oc rfl (oc rfl (oc rfl oz))) (Cal.mono (c_i_within (p_s.length : Int) 1 12) ?_))))
 rintro v4 w3 ⟨rfl, hE5⟩
 refine sd rfl (yl_move rfl rfl (bcase (i_within (p_s.length : Int) 1 12) (fun hb6 => ?_) (fun hb6 => ?_)))
 ·have hb6p := f_within hb6
  refine sy rfl rfl hb6 (yl_move rfl rfl (sy rfl rfl hb6 (yl_call en143 rfl (oc rfl (oc rfl oz)) (Cal.mono (c_i_hasBytes p_s ([46, 47] : Str) o1 (okS.lit rfl)) ?_))))
  rintro v8 w7 ⟨rfl, hE9⟩
  refine sd rfl (yl_pick_t rfl rfl hb6 rfl (sd rfl (yl_assign rfl rfl (dn (CW.ret (rr rfl (.cons rfl .nil) ?_))))))
  have hM10 : (i_GoodKey p_s) = ((i_hasBytes p_s ([46, 47] : Str))) := by simp only [i_GoodKey, hb6, cL]
  rw [hM10]
  exact ⟨rfl, (Ex.trans (Ex.trans (Ex.refl w) hE5) hE9)⟩
 ·refine sz rfl rfl hb6 (sz rfl rfl hb6 (sd rfl (yl_pick_f rfl rfl hb6 rfl (sd rfl (yl_assign rfl rfl (dn (CW.ret (rr rfl (.cons rfl .nil) ?_))))))))
  have hM13 : (i_GoodKey p_s) = (false) := by simp only [i_GoodKey, hb6, cL]
  rw [hM13]
  exact ⟨rfl, (Ex.trans (Ex.refl w) hE5)⟩
theorem c_i_areRising {A1 : Option Addr} {c1 : Nat} {w : World} (p_keys : List Str) (h1 : RdS w (Iv 0 w.heap.size) (RF e_Str) 1 A1 p_keys.length c1 p_keys) (o2 : (okL okS) p_keys) : Cal Tryz.prog 97 #[.slice A1 p_keys.length c1] w fun v w' => v = .bool ((i_areRising p_keys)) ∧ Ex w w' := by
 have hol3 := o2.1
 refine Cal.of func97 rfl ntmps97 rfl (CW.seq (CW.region (sd rfl (yl_assign rfl rfl (dn (CW.seq (CW.seq (CW.region ?_))))))))
 refine sd rfl (yl_move rfl rfl (sd rfl (yl_len un22 rfl rfl (sd rfl (yl_move rfl rfl (dn (CW.block (CW.loop (fun m5 L6 w7 => ∃ (k4 : Nat), m5 = p_keys.length - k4 ∧ k4 ≤ p_keys.length ∧ w.heap.size ≤ w7.heap.size ∧ lkp L6 0 = some (.slice A1 p_keys.length c1) ∧ lkp L6 5 = some (.slice A1 p_keys.length c1) ∧ lkp L6 6 = some (.int .i64 ((p_keys.length : Int))) ∧ lkp L6 7 = some (.int .i64 ((k4 : Int))) ∧ RdS w7 (Iv 0 w.heap.size) (RF e_Str) 1 A1 p_keys.length c1 p_keys ∧ Ex w w7 ∧ loopM (B_i_areRising_0 p_keys) (p_keys.length - k4) k4 () = loopM (B_i_areRising_0 p_keys) (p_keys.length - 0) 0 ()) (p_keys.length - 0) ?_ ?_))))))))
 ·exact ⟨0, rfl, (by omega), Nat.le_refl _, rfl, rfl, rfl, rfl, h1, (Ex.refl w), rfl⟩
 ·rintro m8 L9 w10 ⟨k4, rfl, hk11, hsz13, hl14, hl15, hl16, hl17, hf18, hf19, hI12⟩
  refine CW.sub (Sub.cons hl14 (Sub.cons hl15 (Sub.cons hl16 (Sub.cons hl17 (Sub.nil _))))) ?_
  have hf19z := Ex.size hf19
  have hbg20 := RdS.big hf18
  rcases Nat.lt_or_ge k4 p_keys.length with hlt21 | hlt21
  ·refine CW.seq (CW.region (sd rfl (yl_lss rfl rfl rfl (dn (CW.seq (CW.cond_t rfl (lt_t hlt21) (CW.skip (tn ?_))))))))
   refine CW.seq (CW.block (CW.seq (CW.region (sd rfl (yl_move rfl rfl ?_)))))
   obtain ⟨eb22, eo22, _, eA22, _, ebl22, _, eR22, eC22⟩ := RdS.aD hf18 d_Str (i := k4)
   obtain rfl := eR22
   have eC22 : Cells w10 eb22 (eo22 + k4 * 1) [.string (bs ((p_keys.getD k4 d_Str)))] := eC22
   refine sd rfl (yl_ixN un22 ty9 rfl rfl rfl eA22 (sd rfl (yl_load1 ty9 rfl rfl (eC22 0 _ rfl) (sd rfl (yl_assign rfl rfl (sd rfl (yl_assign rfl rfl (dn (CW.seq (CW.region (sd rfl (yl_move rfl rfl ?_))))))))))))
   refine sd rfl (yl_call en119 rfl (oc rfl oz) (Cal.mono (c_i_GoodKey (p_keys.getD k4 d_Str) (okL.getD o2 ok_d_Str _)) ?_))
   rintro v24 w23 ⟨rfl, hE25⟩
   have hE25z := Ex.size hE25
   refine sd rfl (yl_not rfl rfl (sd rfl (yl_move rfl rfl (bcase (i_GoodKey (p_keys.getD k4 d_Str)) (fun hb26 => ?_) (fun hb26 => ?_)))))
   ·refine sy rfl rfl (not_t hb26) (yl_move rfl rfl (sy rfl rfl (not_t hb26) (yl_gtr rfl rfl rfl (sy rfl rfl (not_t hb26) (yl_move rfl rfl (bcase (decide (0 < (k4 : Int))) (fun hb27 => ?_) (fun hb27 => ?_)))))))
    ·have hb27p := dec_t hb27
     refine sy rfl rfl hb27 (yl_move rfl rfl (sy rfl rfl hb27 (yl_move rfl rfl (sy rfl rfl hb27 (yl_move rfl rfl (sy rfl rfl hb27 (yl_sub rfl rfl rfl ?_)))))))
     have q28 := RdS.ex good_Str hf18 hE25
     obtain ⟨eb29, eo29, _, eA29, _, ebl29, _, eR29, eC29⟩ := RdS.atD q28 d_Str (i := (IntKind.wrap .i64 ((k4 : Int) - 1)).toNat) (by first | omega | assumption | (simp only [wI] at *; omega))
     obtain rfl := eR29
     have eC29 : Cells w23 eb29 (eo29 + ((IntKind.wrap .i64 ((k4 : Int) - 1)).toNat) * 1) [.string (bs ((p_keys.getD ((IntKind.wrap .i64 ((k4 : Int) - 1)).toNat) d_Str)))] := eC29
     refine sy rfl rfl hb27 (yl_indexAddr un22 ty9 rfl rfl rfl eA29 (by first | omega | assumption | (simp only [wI] at *; omega)) (by first | omega | assumption | (simp only [wI] at *; omega)) (sy rfl rfl hb27 (yl_load1 ty9 rfl rfl (eC29 0 _ rfl) (sy rfl rfl hb27 (yl_sleq (a := (p_keys.getD k4 d_Str)) (b := (p_keys.getD ((IntKind.wrap .i64 ((k4 : Int) - 1)).toNat) d_Str)) rfl rfl rfl (sy rfl rfl (not_t hb26) (yl_pick_t rfl rfl hb27 rfl (sd rfl (yl_pick_f rfl rfl (not_t hb26) rfl (dn (bcase (sLe (p_keys.getD k4 d_Str) (p_keys.getD ((IntKind.wrap .i64 ((k4 : Int) - 1)).toNat) d_Str)) (fun hb30 => ?_) (fun hb30 => ?_))))))))))))
     ·refine CW.cond_t rfl hb30 (CW.seq (CW.region (sd rfl (yl_assign rfl rfl (dn (CW.ret (br (tr ?_))))))))
      refine tr ?_
      have hB32 : B_i_areRising_0 p_keys k4 () = .ret false := by simp only [B_i_areRising_0, hb26, hb27, hb30, cL]
      have hL31 : loopM (B_i_areRising_0 p_keys) (p_keys.length - 0) 0 () = .ret false := hI12.symm.trans (loopM.ret hlt21 hB32)
      refine br (tr (rr rfl (.cons rfl .nil) ?_))
      have hM33 : (i_areRising p_keys) = (false) := by simp only [i_areRising, hb26, hb27, hb30, hL31, cL]
      rw [hM33]
      exact ⟨rfl, (Ex.trans hf19 hE25)⟩
     ·refine CW.cond_f rfl hb30 (CW.skip (bn (tn (CW.region (sd rfl (yl_inc rfl rfl rfl (by omega) (sd rfl (yl_move rfl rfl (dn ?_)))))))))
      have hB35 : B_i_areRising_0 p_keys k4 () = .cont () := by simp only [B_i_areRising_0, hb26, hb27, hb30, cL]
      exact ⟨p_keys.length - (k4 + 1), by omega, k4 + 1, rfl, hlt21, (by omega), rfl, rfl, rfl, rfl, q28, (Ex.trans hf19 hE25), (loopM.cont hlt21 hB35).symm.trans hI12⟩
    ·have hb27p := dec_f hb27
     refine sz rfl rfl hb27 (sz rfl rfl hb27 (sz rfl rfl hb27 (sz rfl rfl hb27 (sz rfl rfl hb27 (sz rfl rfl hb27 (sz rfl rfl hb27 (sy rfl rfl (not_t hb26) (yl_pick_f rfl rfl hb27 rfl (sd rfl (yl_pick_f rfl rfl (not_t hb26) rfl ?_))))))))))
     refine dn (CW.cond_f rfl rfl (CW.skip (bn (tn (CW.region (sd rfl (yl_inc rfl rfl rfl (by omega) (sd rfl (yl_move rfl rfl ?_)))))))))
     refine dn ?_
     have hB37 : B_i_areRising_0 p_keys k4 () = .cont () := by simp only [B_i_areRising_0, hb26, hb27, cL]
     exact ⟨p_keys.length - (k4 + 1), by omega, k4 + 1, rfl, hlt21, (by omega), rfl, rfl, rfl, rfl, (RdS.ex good_Str hf18 hE25), (Ex.trans hf19 hE25), (loopM.cont hlt21 hB37).symm.trans hI12⟩
   ·refine sz rfl rfl (not_f hb26) (sz rfl rfl (not_f hb26) (sz rfl rfl (not_f hb26) (sq rfl rfl (sq rfl rfl (sq rfl rfl (sq rfl rfl (sq rfl rfl (sq rfl rfl ?_))))))))
    refine sq rfl rfl (sz rfl rfl (not_f hb26) (sd rfl (yl_pick_t rfl rfl (not_f hb26) rfl (dn (CW.cond_t rfl rfl (CW.seq (CW.region (sd rfl (yl_assign rfl rfl ?_)))))))))
    refine dn (CW.ret (br (tr (tr ?_))))
    have hB41 : B_i_areRising_0 p_keys k4 () = .ret false := by simp only [B_i_areRising_0, hb26, cL]
    have hL40 : loopM (B_i_areRising_0 p_keys) (p_keys.length - 0) 0 () = .ret false := hI12.symm.trans (loopM.ret hlt21 hB41)
    refine br (tr (rr rfl (.cons rfl .nil) ?_))
    have hM42 : (i_areRising p_keys) = (false) := by simp only [i_areRising, hb26, hL40, cL]
    rw [hM42]
    exact ⟨rfl, (Ex.trans hf19 hE25)⟩
  ·refine CW.seq (CW.region (sd rfl (yl_lss rfl rfl rfl (dn (CW.seq (CW.cond_f rfl (lt_f hlt21) (CW.exit (tx ?_))))))))
   refine tx ?_
   have hL44 : loopM (B_i_areRising_0 p_keys) (p_keys.length - 0) 0 () = .done () := hI12.symm.trans (loopM.stop hlt21)
   refine bx (tn (CW.seq (CW.region (sd rfl (yl_assign rfl rfl (dn (CW.ret (rr rfl (.cons rfl .nil) ?_))))))))
   have hM45 : (i_areRising p_keys) = (true) := by simp only [i_areRising, hL44, cL]
   rw [hM45]
   exact ⟨rfl, hf19⟩
theorem c_i_writeKeys {A1 : Option Addr} {c1 : Nat} {w : World} (p_l : List DWrite) (h1 : RdS w (Iv 0 w.heap.size) (RF e_Write) 3 A1 p_l.length c1 p_l) (o2 : (okL ok_Write) p_l) : Cal Tryz.prog 98 #[.slice A1 p_l.length c1] w fun v w' => ∃ A_1 c_1 lo_1 hi_1, v = .slice A_1 ((i_writeKeys p_l).length) c_1 ∧ OwnL w' lo_1 hi_1 9 1 (RF e_Str) A_1 ((i_writeKeys p_l).length) c_1 (i_writeKeys p_l) ∧ (okL okS) (i_writeKeys p_l) ∧ (w.heap.size ≤ lo_1 ∧ lo_1 ≤ hi_1 ∧ hi_1 ≤ w'.heap.size) ∧ Ex w w' := by
 have hol3 := o2.1
 refine Cal.of func98 rfl ntmps98 rfl (CW.seq (CW.region (sd rfl (yl_assign rfl rfl (dn (CW.seq (CW.region (sd rfl (yl_buildSlice (cs := []) un22 ty9 (by decide) rfl opvs_nil (by kernel_rfl) ?_)))))))))
 intro b4 w5 hs6 hz7 hB8 hE9
 have hO10 : OwnL w5 b4 (b4 + 1) 9 1 (RF e_Str) (some ⟨b4, 0, none⟩) 0 0 ([] : List Str) := OwnL.of_box (S := fun _ => False) hB8 (Nat.le_refl _) (Nat.lt_succ_self _) EncL.nil (Nat.le_of_ble_eq_true rfl) (fun h => h) (fun _ h => False.elim h)
 refine sd rfl (yl_assign rfl rfl (dn (CW.seq (CW.seq (CW.region (sd rfl (yl_move rfl rfl (sd rfl (yl_len un36 rfl rfl (sd rfl (yl_move rfl rfl ?_)))))))))))
 refine dn (CW.block (CW.loop (fun m65 L66 w67 => ∃ (k11 : Nat) (x61 : List Str) (A62 : Option Addr) (c63 : Nat) (u64 : Nat), m65 = p_l.length - k11 ∧ k11 ≤ p_l.length ∧ w5.heap.size ≤ w67.heap.size ∧ lkp L66 3 = some (.slice A62 x61.length c63) ∧ lkp L66 7 = some (.slice A1 p_l.length c1) ∧ lkp L66 8 = some (.int .i64 ((p_l.length : Int))) ∧ lkp L66 9 = some (.int .i64 ((k11 : Int))) ∧ OwnL w67 b4 u64 9 1 (RF e_Str) A62 x61.length c63 x61 ∧ RdS w67 (Iv 0 w.heap.size) (RF e_Write) 3 A1 p_l.length c1 p_l ∧ Ex w w67 ∧ (b4 ≤ u64 ∧ u64 ≤ w67.heap.size) ∧ x61.length ≤ 0 + 1 * (k11 - 0) ∧ (∀ y ∈ x61, okS y) ∧ loopM (B_i_writeKeys_0 p_l) (p_l.length - k11) k11 (x61) = loopM (B_i_writeKeys_0 p_l) (p_l.length - 0) 0 (([] : List Str))) (p_l.length - 0) ?_ ?_))
 ·exact ⟨0, ([] : List Str), (some ⟨b4, 0, none⟩), 0, (b4 + 1), rfl, (by omega), Nat.le_refl _, rfl, rfl, rfl, rfl, hO10, (RdS.ex good_Write h1 hE9), (Ex.trans (Ex.refl w) hE9), (by omega), (by first | (simp; done) | (first | omega | (simp only [List.length_append, List.length_cons, List.length_nil, List.length_set, toS_length]; omega))), okE.nil, rfl⟩
 ·rintro m70 L71 w72 ⟨k11, x61, A62, c63, u64, rfl, hk73, hsz75, hl76, hl77, hl78, hl79, hf80, hf81, hf82, hu83, hln84, hok85, hI74⟩
  refine CW.sub (Sub.cons hl76 (Sub.cons hl77 (Sub.cons hl78 (Sub.cons hl79 (Sub.nil _))))) ?_
  have hf82z := Ex.size hf82
  have hbg86 := RdS.big hf81
  rcases Nat.lt_or_ge k11 p_l.length with hlt87 | hlt87
  ·refine CW.seq (CW.region (sd rfl (yl_lss rfl rfl rfl (dn (CW.seq (CW.cond_t rfl (lt_t hlt87) (CW.skip (tn ?_))))))))
   refine CW.seq (CW.block (CW.seq (CW.region ?_)))
   obtain ⟨eb88, eo88, _, eA88, _, ebl88, _, eR88, eC88⟩ := RdS.aD hf81 d_Write (i := k11)
   obtain rfl := eR88
   have eC88 : Cells w72 eb88 (eo88 + k11 * 3) [.string (bs ((p_l.getD k11 d_Write).Key)), .string (bs ((p_l.getD k11 d_Write).Val)), .bool ((p_l.getD k11 d_Write).Gone)] := eC88
   refine sd rfl (yl_ixN un36 ty75 rfl rfl rfl eA88 (sd rfl (yl_loadN ty75 rfl rfl eC88 rfl (sd rfl (yl_alloc ty75 (cs := [.string (bs (([] : Str))), .string (bs (([] : Str))), .bool (false)]) rfl rfl ?_)))))
   intro b89 w90 hs91 hz92 hB93 hE94
   refine SeqR.u rfl rfl (yl_store (vs := [.string (bs ((p_l.getD k11 d_Write).Key)), .string (bs ((p_l.getD k11 d_Write).Val)), .bool ((p_l.getD k11 d_Write).Gone)]) ty75 rfl rfl rfl rfl rfl rfl hB93 (Nat.le_of_ble_eq_true rfl) ?_)
   intro w95 hB96 hO97
   have hB96 : Box w95 b89 75 [.string (bs ((p_l.getD k11 d_Write).Key)), .string (bs ((p_l.getD k11 d_Write).Val)), .bool ((p_l.getD k11 d_Write).Gone)] := hB96
   have hO97z := hO97.size
   refine dn (CW.region (sd rfl (yl_move rfl rfl (sd rfl (yl_fieldAddr fd75_0 rfl rfl (sd rfl (yl_load1 ty9 rfl rfl ((hB96.cell 0).trans rfl) (sd rfl (yl_buildSlice (cs := [.string (bs ((p_l.getD k11 d_Write).Key))]) un22 ty9 (by decide) rfl (oc rfl oz) (by kernel_rfl) ?_)))))))))
   intro b98 w99 hs100 hz101 hB102 hE103
   have hO104 : OwnL w99 b98 (b98 + 1) 9 1 (RF e_Str) (some ⟨b98, 0, none⟩) 1 1 ([(p_l.getD k11 d_Write).Key] : List Str) := OwnL.of_box (S := fun _ => False) hB102 (Nat.le_refl _) (Nat.lt_succ_self _) (EncL.cons (c := [.string (bs ((p_l.getD k11 d_Write).Key))]) rfl rfl EncL.nil) (Nat.le_of_ble_eq_true rfl) (fun h => h) (fun _ h => False.elim h)
   refine sd rfl (yl_appendL (S := (fun _ => False)) (lo := b4) (hi := u64) (xs := x61) (ys := ([(p_l.getD k11 d_Write).Key] : List Str)) good_Str un22 ty9 rfl (Nat.le_of_ble_eq_true rfl) rfl rfl rfl (OwnL.ex good_Str (OwnL.only good_Str (OwnL.ex good_Str hf80 hE94) hO97 (by omega)) hE103) (EncL.cons (c := [.string (bs ((p_l.getD k11 d_Write).Key))]) rfl rfl EncL.nil) (Or.inr ⟨_, _, rfl, rfl, hB102.cells (o := 0) (n := 1) rfl⟩) rfl (by first | omega | (simp only [List.length_append, List.length_cons, List.length_nil, List.length_take, List.length_drop, List.length_replicate, List.length_set, toS_length]; omega)) (by first | omega | (simp only [List.length_append, List.length_cons, List.length_nil, List.length_take, List.length_drop, List.length_replicate, List.length_set, toS_length]; omega)) (by omega) (by omega) (fun _ h _ => False.elim h) (by omega) ?_)
   intro A108 c109 w110 row111 hO112 hG113 hrg114
   have hG113z := hG113.size
   refine sd rfl (yl_assign rfl rfl (SeqR.done (bn (tn (CW.region (sd rfl (yl_inc rfl rfl rfl (by omega) (sd rfl (yl_move rfl rfl (dn ?_))))))))))
   have hB115 : B_i_writeKeys_0 p_l k11 (x61) = .cont ((x61 ++ ([(p_l.getD k11 d_Write).Key] : List Str))) := by simp only [B_i_writeKeys_0, cL]
   exact ⟨p_l.length - (k11 + 1), by omega, k11 + 1, (x61 ++ ([(p_l.getD k11 d_Write).Key] : List Str)), A108, c109, w110.heap.size, rfl, hlt87, (by omega), rfl, rfl, rfl, rfl, hO112, (RdS.grown good_Write (RdS.ex good_Write (RdS.only good_Write (RdS.ex good_Write hf81 hE94) hO97 (by simp only [Iv]; omega)) hE103) hG113 (fun k hk => by have := hrg114 k hk; simp only [Iv]; omega)), (Below.grown (Ex.trans (Below.only (Ex.trans hf82 hE94) hO97 (by omega)) hE103) hG113 (by omega) (fun k hk => by have := hrg114 k hk; omega)), (by omega), (by first | omega | (simp only [List.length_append, List.length_cons, List.length_nil, List.length_set, toS_length]; omega)), (okE.append hok85 ((okL.mk (Nat.le_of_ble_eq_true rfl) (okE.cons (okL.getD o2 ok_d_Write _).1 okE.nil))).2), (loopM.cont hlt87 hB115).symm.trans hI74⟩
  ·refine CW.seq (CW.region (sd rfl (yl_lss rfl rfl rfl (dn (CW.seq (CW.cond_f rfl (lt_f hlt87) (CW.exit (tx ?_))))))))
   refine tx ?_
   have hL124 : loopM (B_i_writeKeys_0 p_l) (p_l.length - 0) 0 (([] : List Str)) = .done (x61) := hI74.symm.trans (loopM.stop hlt87)
   refine bx (tn (CW.seq (CW.region (sd rfl (yl_move rfl rfl (sd rfl (yl_assign rfl rfl (dn (CW.ret ?_)))))))))
   refine rr rfl (.cons rfl .nil) ?_
   have hM125 : (i_writeKeys p_l) = (x61) := by simp only [i_writeKeys, hL124, cL]
   rw [hM125]
   exact ⟨A62, c63, b4, u64, rfl, hf80, (okL.mk (xs := x61) (by first | omega | (simp only [List.length_append, List.length_cons, List.length_nil, List.length_take, List.length_drop, List.length_replicate, List.length_set, toS_length]; omega)) hok85), (by omega), hf82⟩
theorem c_i_GoodVal {w : World} (p_s : Str) (o1 : okS p_s) : Cal Tryz.prog 128 #[.string (bs (p_s))] w fun v w' => v = .bool ((i_GoodVal p_s)) ∧ Ex w w' := by
 refine Cal.of func128 rfl ntmps128 rfl (CW.seq (CW.region (sd rfl (yl_assign rfl rfl (dn (CW.seq (CW.region (sd rfl (yl_move rfl rfl ?_)))))))))
 refine sd rfl (yl_slen un9 (a := p_s) rfl rfl (sd rfl (yl_leq rfl rfl rfl (sd rfl (yl_move rfl rfl (bcase (decide ((p_s.length : Int) ≤ 24)) (fun hb3 => ?_) (fun hb3 => ?_)))))))
 ·have hb3p := dec_t hb3
  refine sy rfl rfl hb3 (yl_move rfl rfl (sy rfl rfl hb3 (yl_call en143 rfl (oc rfl (oc rfl oz)) (Cal.mono (c_i_hasBytes p_s ([46, 45, 44, 95] : Str) o1 (okS.lit rfl)) ?_))))
  rintro v5 w4 ⟨rfl, hE6⟩
  refine sd rfl (yl_pick_t rfl rfl hb3 rfl (sd rfl (yl_assign rfl rfl (dn (CW.ret (rr rfl (.cons rfl .nil) ?_))))))
  have hM7 : (i_GoodVal p_s) = ((i_hasBytes p_s ([46, 45, 44, 95] : Str))) := by simp only [i_GoodVal, hb3, cL]
  rw [hM7]
  exact ⟨rfl, (Ex.trans (Ex.refl w) hE6)⟩
 ·have hb3p := dec_f hb3
  refine sz rfl rfl hb3 (sz rfl rfl hb3 (sd rfl (yl_pick_f rfl rfl hb3 rfl (sd rfl (yl_assign rfl rfl (dn (CW.ret (rr rfl (.cons rfl .nil) ?_))))))))
  have hM9 : (i_GoodVal p_s) = (false) := by simp only [i_GoodVal, hb3, cL]
  rw [hM9]
  exact ⟨rfl, (Ex.refl w)⟩
theorem c_i_isStored {w : World} (p_val : Str) (p_gone : Bool) (o1 : okS p_val) : Cal Tryz.prog 100 #[.string (bs (p_val)), .bool (p_gone)] w fun v w' => v = .bool ((i_isStored p_val p_gone)) ∧ Ex w w' := by
 refine Cal.of func100 rfl ntmps100 rfl (CW.seq (CW.region (sd rfl (yl_assign rfl rfl (dn (CW.seq (CW.region (sd rfl (yl_move rfl rfl ?_)))))))))
 refine sd rfl (yl_call en128 rfl (oc rfl oz) (Cal.mono (c_i_GoodVal p_val o1) ?_))
 rintro v4 w3 ⟨rfl, hE5⟩
 refine sd rfl (yl_move rfl rfl (bcase (i_GoodVal p_val) (fun hb6 => ?_) (fun hb6 => ?_)))
 ·refine sy rfl rfl hb6 (yl_move rfl rfl (sy rfl rfl hb6 (yl_move rfl rfl (bcase (p_gone) (fun hb7 => ?_) (fun hb7 => ?_)))))
  ·refine sy rfl rfl hb7 (yl_move rfl rfl (sy rfl rfl hb7 (yl_sneq (a := p_val) (b := ([] : Str)) rfl rfl rfl (sy rfl rfl hb6 (yl_pick_t rfl rfl hb7 rfl (sy rfl rfl hb6 (yl_not rfl rfl (sd rfl (yl_pick_t rfl rfl hb6 rfl (sd rfl (yl_assign rfl rfl (dn (CW.ret ?_)))))))))))))
   refine rr rfl (.cons rfl .nil) ?_
   have hM8 : (i_isStored p_val p_gone) = (!(!(p_val == ([] : Str)))) := by simp only [i_isStored, hb6, hb7, cL]
   rw [hM8]
   exact ⟨rfl, (Ex.trans (Ex.refl w) hE5)⟩
  ·refine sz rfl rfl hb7 (sz rfl rfl hb7 (sy rfl rfl hb6 (yl_pick_f rfl rfl hb7 rfl (sy rfl rfl hb6 (yl_not rfl rfl (sd rfl (yl_pick_t rfl rfl hb6 rfl (sd rfl (yl_assign rfl rfl (dn (CW.ret ?_)))))))))))
   refine rr rfl (.cons rfl .nil) ?_
   have hM10 : (i_isStored p_val p_gone) = (!false) := by simp only [i_isStored, hb6, hb7, cL]
   rw [hM10]
   exact ⟨rfl, (Ex.trans (Ex.refl w) hE5)⟩
 ·refine sz rfl rfl hb6 (sz rfl rfl hb6 (sq rfl rfl (sq rfl rfl (sz rfl rfl hb6 (sz rfl rfl hb6 (sd rfl (yl_pick_f rfl rfl hb6 rfl (sd rfl (yl_assign rfl rfl (SeqR.done ?_))))))))))
  refine tn (CW.ret (rr rfl (.cons rfl .nil) ?_))
  have hM12 : (i_isStored p_val p_gone) = (false) := by simp only [i_isStored, hb6, cL]
  rw [hM12]
  exact ⟨rfl, (Ex.trans (Ex.refl w) hE5)⟩
theorem c_i_GoodWrites_c1 {w : World} (p_w : DWrite) (o1 : ok_Write p_w) : Cal Tryz.prog 99 #[.agg #[.string (bs (p_w.Key)), .string (bs (p_w.Val)), .bool (p_w.Gone)]] w fun v w' => v = .bool ((i_GoodWrites_c1 p_w)) ∧ Ex w w' := by
 refine Cal.of func99 rfl ntmps99 rfl (CW.seq (CW.region (sd rfl (yl_box rfl rfl rfl ?_))))
 intro b4 w5 hs6 hz7 hB8 hE9
 refine sd rfl (yl_assign rfl rfl (dn (CW.seq (CW.region (sd rfl (yl_fieldAddr fd75_1 rfl rfl (sd rfl (yl_load1 ty9 rfl rfl ((hB8.cell 1).trans rfl) (sd rfl (yl_fieldAddr fd75_2 rfl rfl (sd rfl (yl_load1 ty4 rfl rfl ((hB8.cell 2).trans rfl) ?_))))))))))))
 refine sd rfl (yl_call en100 rfl (oc rfl (oc rfl oz)) (Cal.mono (c_i_isStored p_w.Val p_w.Gone o1.2) ?_))
 rintro v11 w10 ⟨rfl, hE12⟩
 refine sd rfl (yl_not rfl rfl (sd rfl (yl_assign rfl rfl (dn (CW.ret (rr rfl (.cons rfl .nil) ?_))))))
 have hM13 : (i_GoodWrites_c1 p_w) = (!(i_isStored p_w.Val p_w.Gone)) := by simp only [i_GoodWrites_c1, cL]
 rw [hM13]
 exact ⟨rfl, (Ex.trans (Ex.trans (Ex.refl w) hE9) hE12)⟩
theorem c_i_GoodWrites {A1 : Option Addr} {c1 : Nat} {w : World} (p_l : List DWrite) (h1 : RdS w (Iv 0 w.heap.size) (RF e_Write) 3 A1 p_l.length c1 p_l) (o2 : (okL ok_Write) p_l) : Cal Tryz.prog 68 #[.slice A1 p_l.length c1] w fun v w' => v = .bool ((i_GoodWrites p_l)) ∧ Ex w w' := by
 refine Cal.of func68 rfl ntmps68 rfl (CW.seq (CW.region (sd rfl (yl_assign rfl rfl (dn (CW.seq (CW.region (sd rfl (yl_move rfl rfl ?_)))))))))
 refine sd rfl (yl_len un36 rfl rfl (sd rfl (yl_leq rfl rfl rfl (sd rfl (yl_move rfl rfl (bcase (decide ((p_l.length : Int) ≤ 24)) (fun hb4 => ?_) (fun hb4 => ?_)))))))
 ·have hb4p := dec_t hb4
  refine sy rfl rfl hb4 (yl_move rfl rfl (sy rfl rfl hb4 (yl_call en98 rfl (oc rfl oz) (Cal.mono (c_i_writeKeys p_l (RdS.up h1 good_Write) o2) ?_))))
  rintro v8 w5 ⟨A6, c6, lo6, hi6, rfl, h6, ho7, hrn10, hE9⟩
  refine sy rfl rfl hb4 (yl_call en97 rfl (oc rfl oz) (Cal.mono (c_i_areRising (i_writeKeys p_l) (RdS.up (OwnL.rd good_Str h6) good_Str) ho7) ?_))
  rintro v13 w12 ⟨rfl, hE14⟩
  refine sd rfl (yl_pick_t rfl rfl hb4 rfl (sd rfl (yl_move rfl rfl (bcase (i_areRising (i_writeKeys p_l)) (fun hb15 => ?_) (fun hb15 => ?_)))))
  ·refine sy rfl rfl hb15 (yl_move rfl rfl (sy rfl rfl hb15 (yl_call en69 rfl (oc rfl (oc rfl oz)) (Cal.mono (c_g_slices_ContainsFunc_Write p_l (fun y0 => i_GoodWrites_c1 y0) (RdS.up (RdS.ex good_Write (RdS.ex good_Write h1 hE9) hE14) good_Write) en99 (fun _ y0 => fun hE hm0 ov0 => c_i_GoodWrites_c1 y0 ov0) o2) ?_))))
   rintro v19 w18 ⟨rfl, hE20⟩
   refine sy rfl rfl hb15 (yl_not rfl rfl (sd rfl (yl_pick_t rfl rfl hb15 rfl (sd rfl (yl_assign rfl rfl (dn (CW.ret (rr rfl (.cons rfl .nil) ?_))))))))
   have hM21 : (i_GoodWrites p_l) = (!(g_slices_ContainsFunc_Write p_l (fun y0 => i_GoodWrites_c1 y0))) := by simp only [i_GoodWrites, hb4, hb15, cL]
   rw [hM21]
   exact ⟨rfl, (Ex.trans (Ex.trans (Ex.trans (Ex.refl w) hE9) hE14) hE20)⟩
  ·refine sz rfl rfl hb15 (sz rfl rfl hb15 (sz rfl rfl hb15 (sd rfl (yl_pick_f rfl rfl hb15 rfl (sd rfl (yl_assign rfl rfl (dn (CW.ret (rr rfl (.cons rfl .nil) ?_)))))))))
   have hM25 : (i_GoodWrites p_l) = (false) := by simp only [i_GoodWrites, hb4, hb15, cL]
   rw [hM25]
   exact ⟨rfl, (Ex.trans (Ex.trans (Ex.refl w) hE9) hE14)⟩
 ·have hb4p := dec_f hb4
  refine sz rfl rfl hb4 (sz rfl rfl hb4 (sz rfl rfl hb4 (sd rfl (yl_pick_f rfl rfl hb4 rfl (sd rfl (yl_move rfl rfl (sz rfl rfl rfl (sz rfl rfl rfl (sz rfl rfl rfl (sd rfl (yl_pick_f rfl rfl rfl rfl ?_)))))))))))
  refine sd rfl (yl_assign rfl rfl (dn (CW.ret (rr rfl (.cons rfl .nil) ?_))))
  have hM28 : (i_GoodWrites p_l) = (false) := by simp only [i_GoodWrites, hb4, cL]
  rw [hM28]
  exact ⟨rfl, (Ex.refl w)⟩
theorem c_i_isRows_c1 {w : World} (p_w : DWrite) (o1 : ok_Write p_w) : Cal Tryz.prog 70 #[.agg #[.string (bs (p_w.Key)), .string (bs (p_w.Val)), .bool (p_w.Gone)]] w fun v w' => v = .bool ((i_isRows_c1 p_w)) ∧ Ex w w' := by
 refine Cal.of func70 rfl ntmps70 rfl (CW.seq (CW.region (sd rfl (yl_box rfl rfl rfl ?_))))
 intro b4 w5 hs6 hz7 hB8 hE9
 refine sd rfl (yl_assign rfl rfl (dn (CW.seq (CW.region (sd rfl (yl_fieldAddr fd75_2 rfl rfl (sd rfl (yl_load1 ty4 rfl rfl ((hB8.cell 2).trans rfl) (sd rfl (yl_assign rfl rfl (SeqR.done ?_)))))))))))
 refine tn (CW.ret (rr rfl (.cons rfl .nil) ?_))
 have hM10 : (i_isRows_c1 p_w) = (p_w.Gone) := by simp only [i_isRows_c1, cL]
 rw [hM10]
 exact ⟨rfl, (Ex.trans (Ex.refl w) hE9)⟩
theorem c_i_isRows {A1 : Option Addr} {c1 : Nat} {w : World} (p_rows : List DWrite) (h1 : RdS w (Iv 0 w.heap.size) (RF e_Write) 3 A1 p_rows.length c1 p_rows) (o2 : (okL ok_Write) p_rows) : Cal Tryz.prog 33 #[.slice A1 p_rows.length c1] w fun v w' => v = .bool ((i_isRows p_rows)) ∧ Ex w w' := by
 refine Cal.of func33 rfl ntmps33 rfl (CW.seq (CW.region (sd rfl (yl_assign rfl rfl (dn (CW.seq (CW.region (sd rfl (yl_move rfl rfl ?_)))))))))
 refine sd rfl (yl_call en68 rfl (oc rfl oz) (Cal.mono (c_i_GoodWrites p_rows (RdS.up h1 good_Write) o2) ?_))
 rintro v5 w4 ⟨rfl, hE6⟩
 refine sd rfl (yl_move rfl rfl (bcase (i_GoodWrites p_rows) (fun hb7 => ?_) (fun hb7 => ?_)))
 ·refine sy rfl rfl hb7 (yl_move rfl rfl (sy rfl rfl hb7 (yl_call en69 rfl (oc rfl (oc rfl oz)) (Cal.mono (c_g_slices_ContainsFunc_Write p_rows (fun y0 => i_isRows_c1 y0) (RdS.up (RdS.ex good_Write h1 hE6) good_Write) en70 (fun _ y0 => fun hE hm0 ov0 => c_i_isRows_c1 y0 ov0) o2) ?_))))
  rintro v10 w9 ⟨rfl, hE11⟩
  refine sy rfl rfl hb7 (yl_not rfl rfl (sd rfl (yl_pick_t rfl rfl hb7 rfl (sd rfl (yl_assign rfl rfl (dn (CW.ret (rr rfl (.cons rfl .nil) ?_))))))))
  have hM12 : (i_isRows p_rows) = (!(g_slices_ContainsFunc_Write p_rows (fun y0 => i_isRows_c1 y0))) := by simp only [i_isRows, hb7, cL]
  rw [hM12]
  exact ⟨rfl, (Ex.trans (Ex.trans (Ex.refl w) hE6) hE11)⟩
 ·refine sz rfl rfl hb7 (sz rfl rfl hb7 (sz rfl rfl hb7 (sd rfl (yl_pick_f rfl rfl hb7 rfl (sd rfl (yl_assign rfl rfl (dn (CW.ret (rr rfl (.cons rfl .nil) ?_)))))))))
  have hM15 : (i_isRows p_rows) = (false) := by simp only [i_isRows, hb7, cL]
  rw [hM15]
  exact ⟨rfl, (Ex.trans (Ex.refl w) hE6)⟩
theorem c_g_slices_IndexFunc_Table {A1 : Option Addr} {c1 : Nat} {g3 : Nat} {cp4 : List Value} {w : World} (p_s : List DTable) (p_f : DTable → Bool) (h1 : RdS w (Iv 0 w.heap.size) R_Table 3 A1 p_s.length c1 p_s) (hen5 : Go.X.Enters Tryz.prog g3) (hfn6 : ∀ (w1 : World) (y0 : DTable) {A7 : Option Addr} {c7 : Nat} {A8 : Option Addr} {c8 : Nat}, Ex w w1 → y0 ∈ p_s → RdS w1 (Iv 0 w1.heap.size) (RF e_Str) 1 A7 y0.Cols.length c7 y0.Cols → RdS w1 (Iv 0 w1.heap.size) (RF e_Idx) 3 A8 y0.Idxs.length c8 y0.Idxs → ok_Table y0 → Cal Tryz.prog g3 (([.agg #[.string (bs (y0.Name)), .slice A7 y0.Cols.length c7, .slice A8 y0.Idxs.length c8]] : List Value) ++ cp4).toArray w1 fun v w2 => v = .bool (p_f y0) ∧ Ex w1 w2) (o2 : (okL ok_Table) p_s) : Cal Tryz.prog 137 #[.slice A1 p_s.length c1, .func (.func g3) #[] cp4.toArray] w fun v w' => v = .int .i64 ((g_slices_IndexFunc_Table p_s p_f)) ∧ Ex w w' := by
 have hol9 := o2.1
 refine Cal.of func137 rfl ntmps137 rfl (CW.seq (CW.region (sd rfl (yl_assign rfl rfl (dn (CW.seq (CW.seq (CW.region ?_))))))))
 refine sd rfl (yl_move rfl rfl (sd rfl (yl_len un56 rfl rfl (sd rfl (yl_move rfl rfl (dn (CW.block (CW.loop (fun m11 L12 w13 => ∃ (k10 : Nat), m11 = p_s.length - k10 ∧ k10 ≤ p_s.length ∧ w.heap.size ≤ w13.heap.size ∧ lkp L12 0 = some (.slice A1 p_s.length c1) ∧ lkp L12 1 = some (.func (.func g3) #[] cp4.toArray) ∧ lkp L12 7 = some (.int .i64 ((p_s.length : Int))) ∧ lkp L12 8 = some (.int .i64 ((k10 : Int))) ∧ RdS w13 (Iv 0 w.heap.size) R_Table 3 A1 p_s.length c1 p_s ∧ Ex w w13 ∧ loopM (B_g_slices_IndexFunc_Table_0 p_s p_f) (p_s.length - k10) k10 () = loopM (B_g_slices_IndexFunc_Table_0 p_s p_f) (p_s.length - 0) 0 ()) (p_s.length - 0) ?_ ?_))))))))
 ·exact ⟨0, rfl, (by omega), Nat.le_refl _, rfl, rfl, rfl, rfl, h1, (Ex.refl w), rfl⟩
 ·rintro m14 L15 w16 ⟨k10, rfl, hk17, hsz19, hl20, hl21, hl22, hl23, hf24, hf25, hI18⟩
  refine CW.sub (Sub.cons hl20 (Sub.cons hl21 (Sub.cons hl22 (Sub.cons hl23 (Sub.nil _))))) ?_
  have hf25z := Ex.size hf25
  have hbg26 := RdS.big hf24
  rcases Nat.lt_or_ge k10 p_s.length with hlt27 | hlt27
  ·refine CW.seq (CW.region (sd rfl (yl_lss rfl rfl rfl (dn (CW.seq (CW.cond_t rfl (lt_t hlt27) (CW.skip (tn ?_))))))))
   refine CW.seq (CW.block (CW.seq (CW.region (sd rfl (yl_move rfl rfl (sd rfl (yl_assign rfl rfl (dn (CW.seq ?_)))))))))
   refine CW.region (sd rfl (yl_move rfl rfl (sd rfl (yl_move rfl rfl (sd rfl (yl_move rfl rfl ?_))))))
   obtain ⟨_, _, _, eA28, _, ebl28, _, eR28, eC28⟩ := RdS.aD hf24 d_Table (i := k10)
   obtain ⟨A29, c29, A30, c30, rfl, h29, h30⟩ := eR28
   refine sd rfl (yl_ixN un56 ty34 rfl rfl rfl eA28 (sd rfl (yl_loadN ty34 rfl rfl eC28 rfl (sd rfl (yl_callv hen5 rfl rfl (oc rfl oz) (Cal.mono (hfn6 w16 (p_s.getD k10 d_Table) hf25 (getD_mem (by omega)) (RdS.up h29 good_Str) (RdS.up h30 good_Idx) (okL.getD o2 ok_d_Table _)) ?_))))))
   rintro v32 w31 ⟨rfl, hE33⟩
   have hE33z := Ex.size hE33
   refine dn (bcase (p_f (p_s.getD k10 d_Table)) (fun hb34 => ?_) (fun hb34 => ?_))
   ·refine CW.cond_t rfl hb34 (CW.seq (CW.region (sd rfl (yl_move rfl rfl (sd rfl (yl_assign rfl rfl (dn (CW.ret (br ?_)))))))))
    refine tr (tr ?_)
    have hB36 : B_g_slices_IndexFunc_Table_0 p_s p_f k10 () = .ret (k10 : Int) := by simp only [B_g_slices_IndexFunc_Table_0, hb34, cL]
    have hL35 : loopM (B_g_slices_IndexFunc_Table_0 p_s p_f) (p_s.length - 0) 0 () = .ret (k10 : Int) := hI18.symm.trans (loopM.ret hlt27 hB36)
    refine br (tr (rr rfl (.cons rfl .nil) ?_))
    have hM37 : (g_slices_IndexFunc_Table p_s p_f) = ((k10 : Int)) := by simp only [g_slices_IndexFunc_Table, hb34, hL35, cL]
    rw [hM37]
    exact ⟨rfl, (Ex.trans hf25 hE33)⟩
   ·refine CW.cond_f rfl hb34 (CW.skip (bn (tn (CW.region (sd rfl (yl_inc rfl rfl rfl (by omega) (sd rfl (yl_move rfl rfl (dn ?_)))))))))
    have hB39 : B_g_slices_IndexFunc_Table_0 p_s p_f k10 () = .cont () := by simp only [B_g_slices_IndexFunc_Table_0, hb34, cL]
    exact ⟨p_s.length - (k10 + 1), by omega, k10 + 1, rfl, hlt27, (by omega), rfl, rfl, rfl, rfl, (RdS.ex good_Table hf24 hE33), (Ex.trans hf25 hE33), (loopM.cont hlt27 hB39).symm.trans hI18⟩
  ·refine CW.seq (CW.region (sd rfl (yl_lss rfl rfl rfl (dn (CW.seq (CW.cond_f rfl (lt_f hlt27) (CW.exit (tx ?_))))))))
   refine tx ?_
   have hL42 : loopM (B_g_slices_IndexFunc_Table_0 p_s p_f) (p_s.length - 0) 0 () = .done () := hI18.symm.trans (loopM.stop hlt27)
   refine bx (tn (CW.seq (CW.region (sd rfl (yl_assign rfl rfl (dn (CW.ret (rr rfl (.cons rfl .nil) ?_))))))))
   have hM43 : (g_slices_IndexFunc_Table p_s p_f) = (-1) := by simp only [g_slices_IndexFunc_Table, hL42, cL]
   rw [hM43]
   exact ⟨rfl, hf25⟩
theorem c_g_slices_ContainsFunc_Table {A1 : Option Addr} {c1 : Nat} {g3 : Nat} {cp4 : List Value} {w : World} (p_s : List DTable) (p_f : DTable → Bool) (h1 : RdS w (Iv 0 w.heap.size) R_Table 3 A1 p_s.length c1 p_s) (hen5 : Go.X.Enters Tryz.prog g3) (hfn6 : ∀ (w1 : World) (y0 : DTable) {A7 : Option Addr} {c7 : Nat} {A8 : Option Addr} {c8 : Nat}, Ex w w1 → y0 ∈ p_s → RdS w1 (Iv 0 w1.heap.size) (RF e_Str) 1 A7 y0.Cols.length c7 y0.Cols → RdS w1 (Iv 0 w1.heap.size) (RF e_Idx) 3 A8 y0.Idxs.length c8 y0.Idxs → ok_Table y0 → Cal Tryz.prog g3 (([.agg #[.string (bs (y0.Name)), .slice A7 y0.Cols.length c7, .slice A8 y0.Idxs.length c8]] : List Value) ++ cp4).toArray w1 fun v w2 => v = .bool (p_f y0) ∧ Ex w1 w2) (o2 : (okL ok_Table) p_s) : Cal Tryz.prog 110 #[.slice A1 p_s.length c1, .func (.func g3) #[] cp4.toArray] w fun v w' => v = .bool ((g_slices_ContainsFunc_Table p_s p_f)) ∧ Ex w w' := by
 refine Cal.of func110 rfl ntmps110 rfl (CW.seq (CW.region (sd rfl (yl_assign rfl rfl (dn (CW.seq (CW.region (sd rfl (yl_move rfl rfl ?_)))))))))
 refine sd rfl (yl_move rfl rfl (sd rfl (yl_call en137 rfl (oc rfl (oc rfl oz)) (Cal.mono (c_g_slices_IndexFunc_Table p_s p_f (RdS.up h1 good_Table) hen5 (fun w1 y0 => fun hE => hfn6 w1 y0 (Ex.trans (Ex.refl w) hE)) o2) ?_))))
 rintro v11 w10 ⟨rfl, hE12⟩
 refine sd rfl (yl_geq rfl rfl rfl (sd rfl (yl_assign rfl rfl (dn (CW.ret (rr rfl (.cons rfl .nil) ?_))))))
 have hM13 : (g_slices_ContainsFunc_Table p_s p_f) = (decide (0 ≤ (g_slices_IndexFunc_Table p_s p_f))) := by simp only [g_slices_ContainsFunc_Table, cL]
 rw [hM13]
 exact ⟨rfl, (Ex.trans (Ex.refl w) hE12)⟩
theorem c_g_slices_Index_string {A1 : Option Addr} {c1 : Nat} {w : World} (p_s : List Str) (p_v : Str) (h1 : RdS w (Iv 0 w.heap.size) (RF e_Str) 1 A1 p_s.length c1 p_s) (o2 : (okL okS) p_s) (o3 : okS p_v) : Cal Tryz.prog 89 #[.slice A1 p_s.length c1, .string (bs (p_v))] w fun v w' => v = .int .i64 ((g_slices_Index_string p_s p_v)) ∧ Ex w w' := by
 have hol4 := o2.1
 have hol5 : p_v.length ≤ 1073741824 := o3
 refine Cal.of func89 rfl ntmps89 rfl (CW.seq (CW.region (sd rfl (yl_assign rfl rfl (dn (CW.seq (CW.seq (CW.region ?_))))))))
 refine sd rfl (yl_move rfl rfl (sd rfl (yl_len un22 rfl rfl (sd rfl (yl_move rfl rfl (dn (CW.block (CW.loop (fun m7 L8 w9 => ∃ (k6 : Nat), m7 = p_s.length - k6 ∧ k6 ≤ p_s.length ∧ w.heap.size ≤ w9.heap.size ∧ lkp L8 0 = some (.slice A1 p_s.length c1) ∧ lkp L8 1 = some (.string (bs (p_v))) ∧ lkp L8 7 = some (.int .i64 ((p_s.length : Int))) ∧ lkp L8 8 = some (.int .i64 ((k6 : Int))) ∧ RdS w9 (Iv 0 w.heap.size) (RF e_Str) 1 A1 p_s.length c1 p_s ∧ Ex w w9 ∧ loopM (B_g_slices_Index_string_0 p_s p_v) (p_s.length - k6) k6 () = loopM (B_g_slices_Index_string_0 p_s p_v) (p_s.length - 0) 0 ()) (p_s.length - 0) ?_ ?_))))))))
 ·exact ⟨0, rfl, (by omega), Nat.le_refl _, rfl, rfl, rfl, rfl, h1, (Ex.refl w), rfl⟩
 ·rintro m10 L11 w12 ⟨k6, rfl, hk13, hsz15, hl16, hl17, hl18, hl19, hf20, hf21, hI14⟩
  refine CW.sub (Sub.cons hl16 (Sub.cons hl17 (Sub.cons hl18 (Sub.cons hl19 (Sub.nil _))))) ?_
  have hf21z := Ex.size hf21
  have hbg22 := RdS.big hf20
  rcases Nat.lt_or_ge k6 p_s.length with hlt23 | hlt23
  ·refine CW.seq (CW.region (sd rfl (yl_lss rfl rfl rfl (dn (CW.seq (CW.cond_t rfl (lt_t hlt23) (CW.skip (tn ?_))))))))
   refine CW.seq (CW.block (CW.seq (CW.region (sd rfl (yl_move rfl rfl (sd rfl (yl_assign rfl rfl (dn (CW.seq ?_)))))))))
   refine CW.region (sd rfl (yl_move rfl rfl (sd rfl (yl_move rfl rfl (sd rfl (yl_move rfl rfl ?_))))))
   obtain ⟨eb24, eo24, _, eA24, _, ebl24, _, eR24, eC24⟩ := RdS.aD hf20 d_Str (i := k6)
   obtain rfl := eR24
   have eC24 : Cells w12 eb24 (eo24 + k6 * 1) [.string (bs ((p_s.getD k6 d_Str)))] := eC24
   refine sd rfl (yl_ixN un22 ty9 rfl rfl rfl eA24 (sd rfl (yl_load1 ty9 rfl rfl (eC24 0 _ rfl) (sd rfl (yl_seql (a := p_v) (b := (p_s.getD k6 d_Str)) rfl rfl rfl (dn (bcase (p_v == (p_s.getD k6 d_Str)) (fun hb25 => ?_) (fun hb25 => ?_))))))))
   ·refine CW.cond_t rfl hb25 (CW.seq (CW.region (sd rfl (yl_move rfl rfl (sd rfl (yl_assign rfl rfl (dn (CW.ret (br ?_)))))))))
    refine tr (tr ?_)
    have hB27 : B_g_slices_Index_string_0 p_s p_v k6 () = .ret (k6 : Int) := by simp only [B_g_slices_Index_string_0, hb25, cL]
    have hL26 : loopM (B_g_slices_Index_string_0 p_s p_v) (p_s.length - 0) 0 () = .ret (k6 : Int) := hI14.symm.trans (loopM.ret hlt23 hB27)
    refine br (tr (rr rfl (.cons rfl .nil) ?_))
    have hM28 : (g_slices_Index_string p_s p_v) = ((k6 : Int)) := by simp only [g_slices_Index_string, hb25, hL26, cL]
    rw [hM28]
    exact ⟨rfl, hf21⟩
   ·refine CW.cond_f rfl hb25 (CW.skip (bn (tn (CW.region (sd rfl (yl_inc rfl rfl rfl (by omega) (sd rfl (yl_move rfl rfl (dn ?_)))))))))
    have hB29 : B_g_slices_Index_string_0 p_s p_v k6 () = .cont () := by simp only [B_g_slices_Index_string_0, hb25, cL]
    exact ⟨p_s.length - (k6 + 1), by omega, k6 + 1, rfl, hlt23, (by omega), rfl, rfl, rfl, rfl, hf20, hf21, (loopM.cont hlt23 hB29).symm.trans hI14⟩
  ·refine CW.seq (CW.region (sd rfl (yl_lss rfl rfl rfl (dn (CW.seq (CW.cond_f rfl (lt_f hlt23) (CW.exit (tx ?_))))))))
   refine tx ?_
   have hL30 : loopM (B_g_slices_Index_string_0 p_s p_v) (p_s.length - 0) 0 () = .done () := hI14.symm.trans (loopM.stop hlt23)
   refine bx (tn (CW.seq (CW.region (sd rfl (yl_assign rfl rfl (dn (CW.ret (rr rfl (.cons rfl .nil) ?_))))))))
   have hM31 : (g_slices_Index_string p_s p_v) = (-1) := by simp only [g_slices_Index_string, hL30, cL]
   rw [hM31]
   exact ⟨rfl, hf21⟩
theorem c_g_slices_Contains_string {A1 : Option Addr} {c1 : Nat} {w : World} (p_s : List Str) (p_v : Str) (h1 : RdS w (Iv 0 w.heap.size) (RF e_Str) 1 A1 p_s.length c1 p_s) (o2 : (okL okS) p_s) (o3 : okS p_v) : Cal Tryz.prog 54 #[.slice A1 p_s.length c1, .string (bs (p_v))] w fun v w' => v = .bool ((g_slices_Contains_string p_s p_v)) ∧ Ex w w' := by
 refine Cal.of func54 rfl ntmps54 rfl (CW.seq (CW.region (sd rfl (yl_assign rfl rfl (dn (CW.seq (CW.region (sd rfl (yl_move rfl rfl ?_)))))))))
 refine sd rfl (yl_move rfl rfl (sd rfl (yl_call en89 rfl (oc rfl (oc rfl oz)) (Cal.mono (c_g_slices_Index_string p_s p_v (RdS.up h1 good_Str) o2 o3) ?_))))
 rintro v7 w6 ⟨rfl, hE8⟩
 refine sd rfl (yl_geq rfl rfl rfl (sd rfl (yl_assign rfl rfl (dn (CW.ret (rr rfl (.cons rfl .nil) ?_))))))
 have hM9 : (g_slices_Contains_string p_s p_v) = (decide (0 ≤ (g_slices_Index_string p_s p_v))) := by simp only [g_slices_Contains_string, cL]
 rw [hM9]
 exact ⟨rfl, (Ex.trans (Ex.refl w) hE8)⟩
theorem c_i_areLetters {w : World} (p_s : Str) (p_most : Int) (o1 : okS p_s) : Cal Tryz.prog 65 #[.string (bs (p_s)), .int .i64 (p_most)] w fun v w' => v = .bool ((i_areLetters p_s p_most)) ∧ Ex w w' := by
 have hol2 : p_s.length ≤ 1073741824 := o1
 refine Cal.of func65 rfl ntmps65 rfl (CW.seq (CW.region (sd rfl (yl_assign rfl rfl (dn (CW.seq (CW.seq (CW.region ?_))))))))
 refine sd rfl (yl_move rfl rfl (sd rfl (yl_slen un9 (a := p_s) rfl rfl (sd rfl (yl_move rfl rfl (dn (CW.block (CW.loop (fun m4 L5 w6 => ∃ (k3 : Nat), m4 = p_s.length - k3 ∧ k3 ≤ p_s.length ∧ w.heap.size ≤ w6.heap.size ∧ lkp L5 0 = some (.string (bs (p_s))) ∧ lkp L5 1 = some (.int .i64 (p_most)) ∧ lkp L5 7 = some (.int .i64 ((p_s.length : Int))) ∧ lkp L5 8 = some (.int .i64 ((k3 : Int))) ∧ Ex w w6 ∧ loopM (B_i_areLetters_0 p_s p_most) (p_s.length - k3) k3 () = loopM (B_i_areLetters_0 p_s p_most) (p_s.length - 0) 0 ()) (p_s.length - 0) ?_ ?_))))))))
 ·exact ⟨0, rfl, (by omega), Nat.le_refl _, rfl, rfl, rfl, rfl, (Ex.refl w), rfl⟩
 ·rintro m7 L8 w9 ⟨k3, rfl, hk10, hsz12, hl13, hl14, hl15, hl16, hf17, hI11⟩
  refine CW.sub (Sub.cons hl13 (Sub.cons hl14 (Sub.cons hl15 (Sub.cons hl16 (Sub.nil _))))) ?_
  have hf17z := Ex.size hf17
  have hbg18 : p_s.length ≤ 1073741824 := o1
  rcases Nat.lt_or_ge k3 p_s.length with hlt19 | hlt19
  ·refine CW.seq (CW.region (sd rfl (yl_lss rfl rfl rfl (dn (CW.seq (CW.cond_t rfl (lt_t hlt19) (CW.skip (tn ?_))))))))
   refine CW.seq (CW.block (CW.seq (CW.region (sd rfl (yl_move rfl rfl (sd rfl (yl_assign rfl rfl (dn (CW.seq ?_)))))))))
   refine CW.region (sd rfl (yl_move rfl rfl (sd rfl (yl_move rfl rfl (sd rfl (yl_sindexN un9 (a := p_s) rfl rfl rfl (by first | omega | assumption | (simp only [wI] at *; omega)) (sd rfl (yl_lss rfl rfl rfl (sd rfl (yl_move rfl rfl (bcase (decide (((p_s.getD k3 0).toNat : Int) < 97)) (fun hb20 => ?_) (fun hb20 => ?_))))))))))))
   ·have hb20p := dec_t hb20
    refine sz rfl rfl hb20 (sz rfl rfl hb20 (sz rfl rfl hb20 (sz rfl rfl hb20 (sd rfl (yl_pick_t rfl rfl hb20 rfl (dn (CW.cond_t rfl rfl (CW.seq ?_))))))))
    refine CW.region (sd rfl (yl_assign rfl rfl (dn (CW.ret (br (tr (tr ?_)))))))
    have hB22 : B_i_areLetters_0 p_s p_most k3 () = .ret false := by simp only [B_i_areLetters_0, hb20, cL]
    have hL21 : loopM (B_i_areLetters_0 p_s p_most) (p_s.length - 0) 0 () = .ret false := hI11.symm.trans (loopM.ret hlt19 hB22)
    refine br (tr (rr rfl (.cons rfl .nil) ?_))
    have hM23 : (i_areLetters p_s p_most) = (false) := by simp only [i_areLetters, hb20, hL21, cL]
    rw [hM23]
    exact ⟨rfl, hf17⟩
   ·have hb20p := dec_f hb20
    refine sy rfl rfl hb20 (yl_move rfl rfl (sy rfl rfl hb20 (yl_move rfl rfl (sy rfl rfl hb20 (yl_sindexN un9 (a := p_s) rfl rfl rfl (by first | omega | assumption | (simp only [wI] at *; omega)) (sy rfl rfl hb20 (yl_gtr rfl rfl rfl (sd rfl (yl_pick_f rfl rfl hb20 rfl (dn (bcase (decide (122 < ((p_s.getD k3 0).toNat : Int))) (fun hb24 => ?_) (fun hb24 => ?_))))))))))))
    ·have hb24p := dec_t hb24
     refine CW.cond_t rfl hb24 (CW.seq (CW.region (sd rfl (yl_assign rfl rfl (dn (CW.ret (br (tr ?_))))))))
     refine tr ?_
     have hB26 : B_i_areLetters_0 p_s p_most k3 () = .ret false := by simp only [B_i_areLetters_0, hb20, hb24, cL]
     have hL25 : loopM (B_i_areLetters_0 p_s p_most) (p_s.length - 0) 0 () = .ret false := hI11.symm.trans (loopM.ret hlt19 hB26)
     refine br (tr (rr rfl (.cons rfl .nil) ?_))
     have hM27 : (i_areLetters p_s p_most) = (false) := by simp only [i_areLetters, hb20, hb24, hL25, cL]
     rw [hM27]
     exact ⟨rfl, hf17⟩
    ·have hb24p := dec_f hb24
     refine CW.cond_f rfl hb24 (CW.skip (bn (tn (CW.region (sd rfl (yl_inc rfl rfl rfl (by omega) (sd rfl (yl_move rfl rfl (dn ?_)))))))))
     have hB28 : B_i_areLetters_0 p_s p_most k3 () = .cont () := by simp only [B_i_areLetters_0, hb20, hb24, cL]
     exact ⟨p_s.length - (k3 + 1), by omega, k3 + 1, rfl, hlt19, (by omega), rfl, rfl, rfl, rfl, hf17, (loopM.cont hlt19 hB28).symm.trans hI11⟩
  ·refine CW.seq (CW.region (sd rfl (yl_lss rfl rfl rfl (dn (CW.seq (CW.cond_f rfl (lt_f hlt19) (CW.exit (tx ?_))))))))
   refine tx ?_
   have hL29 : loopM (B_i_areLetters_0 p_s p_most) (p_s.length - 0) 0 () = .done () := hI11.symm.trans (loopM.stop hlt19)
   refine bx (tn (CW.seq (CW.region (sd rfl (yl_move rfl rfl (sd rfl (yl_slen un9 (a := p_s) rfl rfl (sd rfl (yl_move rfl rfl (sd rfl (yl_call en66 rfl (oc rfl (oc rfl (oc rfl oz))) (Cal.mono (c_i_within (p_s.length : Int) 1 p_most) ?_))))))))))))
   rintro v31 w30 ⟨rfl, hE32⟩
   have hE32z := Ex.size hE32
   refine sd rfl (yl_assign rfl rfl (dn (CW.ret (rr rfl (.cons rfl .nil) ?_))))
   have hM33 : (i_areLetters p_s p_most) = ((i_within (p_s.length : Int) 1 p_most)) := by simp only [i_areLetters, hL29, cL]
   rw [hM33]
   exact ⟨rfl, (Ex.trans hf17 hE32)⟩
theorem c_i_isStage {w : World} (p_stage : Int) : Cal Tryz.prog 67 #[.int .i64 (p_stage)] w fun v w' => v = .bool ((i_isStage p_stage)) ∧ Ex w w' := by
 refine Cal.of func67 rfl ntmps67 rfl (CW.seq (CW.region (sd rfl (yl_assign rfl rfl (dn (CW.seq (CW.region (sd rfl (yl_move rfl rfl ?_)))))))))
 refine sd rfl (yl_call en66 rfl (oc rfl (oc rfl (oc rfl oz))) (Cal.mono (c_i_within p_stage 0 3) ?_))
 rintro v2 w1 ⟨rfl, hE3⟩
 refine sd rfl (yl_assign rfl rfl (dn (CW.ret (rr rfl (.cons rfl .nil) ?_))))
 have hM4 : (i_isStage p_stage) = ((i_within p_stage 0 3)) := by simp only [i_isStage, cL]
 rw [hM4]
 exact ⟨rfl, (Ex.trans (Ex.refl w) hE3)⟩
theorem c_i_GoodTable {A1 : Option Addr} {c1 : Nat} {A2 : Option Addr} {c2 : Nat} {w : World} (p_0 : DTable) (h1 : RdS w (Iv 0 w.heap.size) (RF e_Str) 1 A1 p_0.Cols.length c1 p_0.Cols) (h2 : RdS w (Iv 0 w.heap.size) (RF e_Idx) 3 A2 p_0.Idxs.length c2 p_0.Idxs) (o3 : ok_Table p_0) : Cal Tryz.prog 32 #[.agg #[.string (bs (p_0.Name)), .slice A1 p_0.Cols.length c1, .slice A2 p_0.Idxs.length c2]] w fun v w' => v = .bool ((i_GoodTable p_0)) ∧ Ex w w' := by
 have hol4 : p_0.Name.length ≤ 1073741824 := o3.1
 have hol5 := o3.2.1.1
 have hol6 := o3.2.2.1
 refine Cal.of func32 rfl ntmps32 rfl (CW.seq (CW.region (sd rfl (yl_box rfl rfl rfl ?_))))
 intro b7 w8 hs9 hz10 hB11 hE12
 refine sd rfl (yl_assign rfl rfl (dn (CW.seq (CW.seq (CW.region (sd rfl (yl_fieldAddr fd34_0 rfl rfl (sd rfl (yl_load1 ty9 rfl rfl ((hB11.cell 0).trans rfl) (sd rfl (yl_call en65 rfl (oc rfl (oc rfl oz)) (Cal.mono (c_i_areLetters p_0.Name 1 o3.1) ?_))))))))))))
 rintro v14 w13 ⟨rfl, hE15⟩
 have hE15z := Ex.size hE15
 refine sd rfl (yl_not rfl rfl (sd rfl (yl_move rfl rfl (bcase (i_areLetters p_0.Name 1) (fun hb16 => ?_) (fun hb16 => ?_)))))
 ·refine sy rfl rfl (not_t hb16) (yl_fieldAddr fd34_1 rfl rfl ?_)
  have q17 := Box.ex hB11 hE15
  refine sy rfl rfl (not_t hb16) (yl_load1 ty22 rfl rfl ((q17.cell 1).trans rfl) (sy rfl rfl (not_t hb16) (yl_len un22 rfl rfl (sy rfl rfl (not_t hb16) (yl_call en66 rfl (oc rfl (oc rfl (oc rfl oz))) (Cal.mono (c_i_within (p_0.Cols.length : Int) 2 4) ?_))))))
  rintro v19 w18 ⟨rfl, hE20⟩
  have hE20z := Ex.size hE20
  refine sy rfl rfl (not_t hb16) (yl_not rfl rfl (sd rfl (yl_pick_f rfl rfl (not_t hb16) rfl (sd rfl (yl_move rfl rfl (bcase (i_within (p_0.Cols.length : Int) 2 4) (fun hb21 => ?_) (fun hb21 => ?_)))))))
  ·have hb21p := f_within hb21
   refine sy rfl rfl (not_t hb21) (yl_fieldAddr fd34_2 rfl rfl ?_)
   have q22 := Box.ex q17 hE20
   refine sy rfl rfl (not_t hb21) (yl_load1 ty32 rfl rfl ((q22.cell 2).trans rfl) (sy rfl rfl (not_t hb21) (yl_len un32 rfl rfl (sy rfl rfl (not_t hb21) (yl_gtr rfl rfl rfl (sd rfl (yl_pick_f rfl rfl (not_t hb21) rfl (dn (bcase (decide (3 < (p_0.Idxs.length : Int))) (fun hb23 => ?_) (fun hb23 => ?_))))))))))
   ·have hb23p := dec_t hb23
    refine CW.cond_t rfl hb23 (CW.seq (CW.region (sd rfl (yl_assign rfl rfl (dn (CW.ret (tr (rr rfl (.cons rfl .nil) ?_))))))))
    have hM24 : (i_GoodTable p_0) = (false) := by simp only [i_GoodTable, hb16, hb21, hb23, cL]
    rw [hM24]
    exact ⟨rfl, (Ex.trans (Ex.trans (Ex.trans (Ex.refl w) hE12) hE15) hE20)⟩
   ·have hb23p := dec_f hb23
    refine CW.cond_f rfl hb23 (CW.skip (tn (CW.seq (CW.seq (CW.region (sd rfl (yl_fieldAddr fd34_1 rfl rfl (sd rfl (yl_load1 ty22 rfl rfl ((q22.cell 1).trans rfl) (sd rfl (yl_len un22 rfl rfl ?_)))))))))))
    refine sd rfl (yl_move rfl rfl (dn (CW.block (CW.loop (fun m29 L30 w31 => ∃ (k28 : Nat), m29 = p_0.Cols.length - k28 ∧ k28 ≤ p_0.Cols.length ∧ w18.heap.size ≤ w31.heap.size ∧ lkp L30 1 = some (.pointer (some ⟨b7, 0, none⟩)) ∧ lkp L30 25 = some (.slice A1 p_0.Cols.length c1) ∧ lkp L30 26 = some (.int .i64 ((p_0.Cols.length : Int))) ∧ lkp L30 27 = some (.int .i64 ((k28 : Int))) ∧ Box w31 b7 34 [.string (bs (p_0.Name)), .slice A1 p_0.Cols.length c1, .slice A2 p_0.Idxs.length c2] ∧ RdS w31 (Iv 0 w.heap.size) (RF e_Str) 1 A1 p_0.Cols.length c1 p_0.Cols ∧ RdS w31 (Iv 0 w.heap.size) (RF e_Idx) 3 A2 p_0.Idxs.length c2 p_0.Idxs ∧ Ex w w31 ∧ loopM (B_i_GoodTable_0 p_0) (p_0.Cols.length - k28) k28 () = loopM (B_i_GoodTable_0 p_0) (p_0.Cols.length - 0) 0 ()) (p_0.Cols.length - 0) ?_ ?_))))
    ·exact ⟨0, rfl, (by omega), Nat.le_refl _, rfl, rfl, rfl, rfl, q22, (RdS.ex good_Str (RdS.ex good_Str (RdS.ex good_Str h1 hE12) hE15) hE20), (RdS.ex good_Idx (RdS.ex good_Idx (RdS.ex good_Idx h2 hE12) hE15) hE20), (Ex.trans (Ex.trans (Ex.trans (Ex.refl w) hE12) hE15) hE20), rfl⟩
    ·rintro m41 L42 w43 ⟨k28, rfl, hk44, hsz46, hl47, hl48, hl49, hl50, hf51, hf52, hf53, hf54, hI45⟩
     refine CW.sub (Sub.cons hl47 (Sub.cons hl48 (Sub.cons hl49 (Sub.cons hl50 (Sub.nil _))))) ?_
     have hf51z := Box.lt hf51
     have hf54z := Ex.size hf54
     have hbg55 := RdS.big hf52
     rcases Nat.lt_or_ge k28 p_0.Cols.length with hlt56 | hlt56
     ·refine CW.seq (CW.region (sd rfl (yl_lss rfl rfl rfl (dn (CW.seq (CW.cond_t rfl (lt_t hlt56) (CW.skip (tn ?_))))))))
      refine CW.seq (CW.block (CW.seq (CW.region (sd rfl (yl_move rfl rfl ?_)))))
      obtain ⟨eb57, eo57, _, eA57, _, ebl57, _, eR57, eC57⟩ := RdS.aD hf52 d_Str (i := k28)
      obtain rfl := eR57
      have eC57 : Cells w43 eb57 (eo57 + k28 * 1) [.string (bs ((p_0.Cols.getD k28 d_Str)))] := eC57
      refine sd rfl (yl_ixN un22 ty9 rfl rfl rfl eA57 (sd rfl (yl_load1 ty9 rfl rfl (eC57 0 _ rfl) (sd rfl (yl_assign rfl rfl (sd rfl (yl_assign rfl rfl (dn (CW.seq (CW.region (sd rfl (yl_move rfl rfl ?_))))))))))))
      refine sd rfl (yl_call en65 rfl (oc rfl (oc rfl oz)) (Cal.mono (c_i_areLetters (p_0.Cols.getD k28 d_Str) 3 (okL.getD o3.2.1 ok_d_Str _)) ?_))
      rintro v59 w58 ⟨rfl, hE60⟩
      have hE60z := Ex.size hE60
      refine sd rfl (yl_not rfl rfl (sd rfl (yl_move rfl rfl (bcase (i_areLetters (p_0.Cols.getD k28 d_Str) 3) (fun hb61 => ?_) (fun hb61 => ?_)))))
      ·refine sy rfl rfl (not_t hb61) (yl_fieldAddr fd34_1 rfl rfl ?_)
       have q62 := Box.ex hf51 hE60
       refine sy rfl rfl (not_t hb61) (yl_load1 ty22 rfl rfl ((q62.cell 1).trans rfl) (sy rfl rfl (not_t hb61) (yl_move rfl rfl ?_)))
       have q63 := RdS.ex good_Str hf52 hE60
       obtain ⟨A64, c65, he68, h67⟩ := RdS.sl (RdS.drop (RdS.take q63 (k := k28) (by omega)) (k := 0) (by omega))
       have hrc69 := (q63).2.1
       refine sy rfl rfl (not_t hb61) (yl_sliceR (kl := .i64) (l := 0) (h := k28) un22 ty9 rfl rfl (.inl ⟨rfl, rfl⟩) (.inr ⟨_, rfl, rfl⟩) (by omega) (by omega) he68 (sy rfl rfl (not_t hb61) (yl_move rfl rfl (sy rfl rfl (not_t hb61) (yl_call en54 rfl (oc rfl (oc rfl oz)) (Cal.mono (c_g_slices_Contains_string (p_0.Cols.take k28) (p_0.Cols.getD k28 d_Str) (RdS.up h67 good_Str) (okL.take o3.2.1 _) (okL.getD o3.2.1 ok_d_Str _)) ?_))))))
       rintro v71 w70 ⟨rfl, hE72⟩
       have hE72z := Ex.size hE72
       refine sd rfl (yl_pick_f rfl rfl (not_t hb61) rfl (dn (bcase (g_slices_Contains_string (p_0.Cols.take k28) (p_0.Cols.getD k28 d_Str)) (fun hb73 => ?_) (fun hb73 => ?_))))
       ·refine CW.cond_t rfl hb73 (CW.seq (CW.region (sd rfl (yl_assign rfl rfl (dn (CW.ret (br (tr ?_))))))))
        refine tr ?_
        have hB75 : B_i_GoodTable_0 p_0 k28 () = .ret false := by simp only [B_i_GoodTable_0, hb16, hb21, hb23, hb61, hb73, cL]
        have hL74 : loopM (B_i_GoodTable_0 p_0) (p_0.Cols.length - 0) 0 () = .ret false := hI45.symm.trans (loopM.ret hlt56 hB75)
        refine br (tr (rr rfl (.cons rfl .nil) ?_))
        have hM76 : (i_GoodTable p_0) = (false) := by simp only [i_GoodTable, hb16, hb21, hb23, hb61, hb73, hL74, cL]
        rw [hM76]
        exact ⟨rfl, (Ex.trans (Ex.trans hf54 hE60) hE72)⟩
       ·refine CW.cond_f rfl hb73 (CW.skip (bn (tn (CW.region (sd rfl (yl_inc rfl rfl rfl (by omega) (sd rfl (yl_move rfl rfl (dn ?_)))))))))
        have hB79 : B_i_GoodTable_0 p_0 k28 () = .cont () := by simp only [B_i_GoodTable_0, hb16, hb21, hb23, hb61, hb73, cL]
        exact ⟨p_0.Cols.length - (k28 + 1), by omega, k28 + 1, rfl, hlt56, (by omega), rfl, rfl, rfl, rfl, (Box.ex q62 hE72), (RdS.ex good_Str q63 hE72), (RdS.ex good_Idx (RdS.ex good_Idx hf53 hE60) hE72), (Ex.trans (Ex.trans hf54 hE60) hE72), (loopM.cont hlt56 hB79).symm.trans hI45⟩
      ·refine sz rfl rfl (not_f hb61) (sz rfl rfl (not_f hb61) (sz rfl rfl (not_f hb61) (sz rfl rfl (not_f hb61) (sz rfl rfl (not_f hb61) (sz rfl rfl (not_f hb61) (sd rfl (yl_pick_t rfl rfl (not_f hb61) rfl (dn ?_))))))))
       refine CW.cond_t rfl rfl (CW.seq (CW.region (sd rfl (yl_assign rfl rfl (dn (CW.ret (br (tr ?_))))))))
       refine tr ?_
       have hB87 : B_i_GoodTable_0 p_0 k28 () = .ret false := by simp only [B_i_GoodTable_0, hb16, hb21, hb23, hb61, cL]
       have hL86 : loopM (B_i_GoodTable_0 p_0) (p_0.Cols.length - 0) 0 () = .ret false := hI45.symm.trans (loopM.ret hlt56 hB87)
       refine br (tr (rr rfl (.cons rfl .nil) ?_))
       have hM88 : (i_GoodTable p_0) = (false) := by simp only [i_GoodTable, hb16, hb21, hb23, hb61, hL86, cL]
       rw [hM88]
       exact ⟨rfl, (Ex.trans hf54 hE60)⟩
     ·refine CW.seq (CW.region (sd rfl (yl_lss rfl rfl rfl (dn (CW.seq (CW.cond_f rfl (lt_f hlt56) (CW.exit (tx ?_))))))))
      refine tx ?_
      have hL90 : loopM (B_i_GoodTable_0 p_0) (p_0.Cols.length - 0) 0 () = .done () := hI45.symm.trans (loopM.stop hlt56)
      refine bx (tn (CW.seq (CW.seq (CW.region (sd rfl (yl_fieldAddr fd34_2 rfl rfl (sd rfl (yl_load1 ty32 rfl rfl ((hf51.cell 2).trans rfl) (sd rfl (yl_len un32 rfl rfl (sd rfl (yl_move rfl rfl ?_))))))))))))
      refine dn (CW.block (CW.loop (fun m129 L130 w131 => ∃ (k91 : Nat), m129 = p_0.Idxs.length - k91 ∧ k91 ≤ p_0.Idxs.length ∧ w43.heap.size ≤ w131.heap.size ∧ lkp L130 1 = some (.pointer (some ⟨b7, 0, none⟩)) ∧ lkp L130 45 = some (.slice A2 p_0.Idxs.length c2) ∧ lkp L130 46 = some (.int .i64 ((p_0.Idxs.length : Int))) ∧ lkp L130 47 = some (.int .i64 ((k91 : Int))) ∧ Box w131 b7 34 [.string (bs (p_0.Name)), .slice A1 p_0.Cols.length c1, .slice A2 p_0.Idxs.length c2] ∧ RdS w131 (Iv 0 w.heap.size) (RF e_Str) 1 A1 p_0.Cols.length c1 p_0.Cols ∧ RdS w131 (Iv 0 w.heap.size) (RF e_Idx) 3 A2 p_0.Idxs.length c2 p_0.Idxs ∧ Ex w w131 ∧ loopM (B_i_GoodTable_1 p_0) (p_0.Idxs.length - k91) k91 () = loopM (B_i_GoodTable_1 p_0) (p_0.Idxs.length - 0) 0 ()) (p_0.Idxs.length - 0) ?_ ?_))
      ·exact ⟨0, rfl, (by omega), Nat.le_refl _, rfl, rfl, rfl, rfl, hf51, hf52, hf53, hf54, rfl⟩
      ·rintro m132 L133 w134 ⟨k91, rfl, hk135, hsz137, hl138, hl139, hl140, hl141, hf142, hf143, hf144, hf145, hI136⟩
       refine CW.sub (Sub.cons hl138 (Sub.cons hl139 (Sub.cons hl140 (Sub.cons hl141 (Sub.nil _))))) ?_
       have hf142z := Box.lt hf142
       have hf145z := Ex.size hf145
       have hbg146 := RdS.big hf144
       rcases Nat.lt_or_ge k91 p_0.Idxs.length with hlt147 | hlt147
       ·refine CW.seq (CW.region (sd rfl (yl_lss rfl rfl rfl (dn (CW.seq (CW.cond_t rfl (lt_t hlt147) (CW.skip (tn ?_))))))))
        refine CW.seq (CW.block (CW.seq (CW.region (sd rfl (yl_move rfl rfl ?_)))))
        obtain ⟨eb148, eo148, _, eA148, _, ebl148, _, eR148, eC148⟩ := RdS.aD hf144 d_Idx (i := k91)
        obtain rfl := eR148
        have eC148 : Cells w134 eb148 (eo148 + k91 * 3) [.string (bs ((p_0.Idxs.getD k91 d_Idx).Name)), .int .i64 ((p_0.Idxs.getD k91 d_Idx).Col), .int .i64 ((p_0.Idxs.getD k91 d_Idx).Stage)] := eC148
        refine sd rfl (yl_ixN un32 ty104 rfl rfl rfl eA148 (sd rfl (yl_loadN ty104 rfl rfl eC148 rfl (sd rfl (yl_alloc ty104 (cs := [.string (bs (([] : Str))), .int .i64 (0), .int .i64 (0)]) rfl rfl ?_)))))
        intro b149 w150 hs151 hz152 hB153 hE154
        refine sd rfl (yl_assign rfl rfl (SeqR.u rfl rfl (yl_store (vs := [.string (bs ((p_0.Idxs.getD k91 d_Idx).Name)), .int .i64 ((p_0.Idxs.getD k91 d_Idx).Col), .int .i64 ((p_0.Idxs.getD k91 d_Idx).Stage)]) ty104 rfl rfl rfl rfl rfl rfl hB153 (Nat.le_of_ble_eq_true rfl) ?_)))
        intro w155 hB156 hO157
        have hB156 : Box w155 b149 104 [.string (bs ((p_0.Idxs.getD k91 d_Idx).Name)), .int .i64 ((p_0.Idxs.getD k91 d_Idx).Col), .int .i64 ((p_0.Idxs.getD k91 d_Idx).Stage)] := hB156
        have hO157z := hO157.size
        refine dn (CW.seq (bcase (i_areLetters ((p_0.Idxs.getD k91 d_Idx).Name) 1) (fun hb159 => ?_) (fun hb159 => ?_)))
        ·refine bcase (i_within ((p_0.Idxs.getD k91 d_Idx).Col) 1 (IntKind.wrap .i64 ((p_0.Cols.length : Int) - 1))) (fun hb164 => ?_) (fun hb164 => ?_)
         ·have hb164p := f_within hb164
          refine bcase (i_isStage ((p_0.Idxs.getD k91 d_Idx).Stage)) (fun hb170 => ?_) (fun hb170 => ?_)
          ·have hb170p := f_i_isStage hb170
           refine bcase (decide (0 < (k91 : Int))) (fun hb176 => ?_) (fun hb176 => ?_)
           ·have hb176p := dec_t hb176
            have q179 := Box.only (Box.ex hf142 hE154) hO157 (by omega)
            have q183 := RdS.only good_Idx (RdS.ex good_Idx hf144 hE154) hO157 (by simp only [Iv]; omega)
            obtain ⟨eb184, eo184, _, eA184, _, ebl184, _, eR184, eC184⟩ := RdS.atD q183 d_Idx (i := (IntKind.wrap .i64 ((k91 : Int) - 1)).toNat) (by first | omega | assumption | (simp only [wI] at *; omega))
            obtain rfl := eR184
            have eC184 : Cells w155 eb184 (eo184 + ((IntKind.wrap .i64 ((k91 : Int) - 1)).toNat) * 3) [.string (bs ((p_0.Idxs.getD ((IntKind.wrap .i64 ((k91 : Int) - 1)).toNat) d_Idx).Name)), .int .i64 ((p_0.Idxs.getD ((IntKind.wrap .i64 ((k91 : Int) - 1)).toNat) d_Idx).Col), .int .i64 ((p_0.Idxs.getD ((IntKind.wrap .i64 ((k91 : Int) - 1)).toNat) d_Idx).Stage)] := eC184
            refine CW.drawsI 36 (vgetI ([.pointer (some ⟨b149, 0 + 0, none⟩), .string (bs ((p_0.Idxs.getD k91 d_Idx).Name)), .bool ((i_areLetters ((p_0.Idxs.getD k91 d_Idx).Name) 1)), .bool (!(i_areLetters ((p_0.Idxs.getD k91 d_Idx).Name) 1)), .bool (!(i_areLetters ((p_0.Idxs.getD k91 d_Idx).Name) 1)), .pointer (some ⟨b149, 0 + 1, none⟩), .int .i64 ((p_0.Idxs.getD k91 d_Idx).Col), .pointer (some ⟨b7, 0 + 1, none⟩), .slice A1 p_0.Cols.length c1, .int .i64 ((p_0.Cols.length : Int)), .int .i64 (IntKind.wrap .i64 ((p_0.Cols.length : Int) - 1)), .bool ((i_within ((p_0.Idxs.getD k91 d_Idx).Col) 1 (IntKind.wrap .i64 ((p_0.Cols.length : Int) - 1)))), .bool (!(i_within ((p_0.Idxs.getD k91 d_Idx).Col) 1 (IntKind.wrap .i64 ((p_0.Cols.length : Int) - 1)))), .bool (!(i_within ((p_0.Idxs.getD k91 d_Idx).Col) 1 (IntKind.wrap .i64 ((p_0.Cols.length : Int) - 1)))), .bool (!(i_within ((p_0.Idxs.getD k91 d_Idx).Col) 1 (IntKind.wrap .i64 ((p_0.Cols.length : Int) - 1)))), .pointer (some ⟨b149, 0 + 2, none⟩), .int .i64 ((p_0.Idxs.getD k91 d_Idx).Stage), .bool ((i_isStage ((p_0.Idxs.getD k91 d_Idx).Stage))), .bool (!(i_isStage ((p_0.Idxs.getD k91 d_Idx).Stage))), .bool (!(i_isStage ((p_0.Idxs.getD k91 d_Idx).Stage))), .bool (!(i_isStage ((p_0.Idxs.getD k91 d_Idx).Stage))), .int .i64 ((k91 : Int)), .bool (decide (0 < (k91 : Int))), .bool (decide (0 < (k91 : Int))), .pointer (some ⟨b149, 0 + 0, none⟩), .string (bs ((p_0.Idxs.getD k91 d_Idx).Name)), .pointer (some ⟨b7, 0 + 2, none⟩), .slice A2 p_0.Idxs.length c2, .int .i64 ((k91 : Int)), .int .i64 (IntKind.wrap .i64 ((k91 : Int) - 1)), .pointer (some ⟨eb184, eo184 + ((IntKind.wrap .i64 ((k91 : Int) - 1)).toNat) * 3, none⟩), .pointer (some ⟨eb184, eo184 + ((IntKind.wrap .i64 ((k91 : Int) - 1)).toNat) * 3 + 0, none⟩), .string (bs ((p_0.Idxs.getD ((IntKind.wrap .i64 ((k91 : Int) - 1)).toNat) d_Idx).Name)), .bool (sLe ((p_0.Idxs.getD k91 d_Idx).Name) ((p_0.Idxs.getD ((IntKind.wrap .i64 ((k91 : Int) - 1)).toNat) d_Idx).Name)), .bool (sLe ((p_0.Idxs.getD k91 d_Idx).Name) ((p_0.Idxs.getD ((IntKind.wrap .i64 ((k91 : Int) - 1)).toNat) d_Idx).Name)), .bool (sLe ((p_0.Idxs.getD k91 d_Idx).Name) ((p_0.Idxs.getD ((IntKind.wrap .i64 ((k91 : Int) - 1)).toNat) d_Idx).Name))].map DetI)) Tryz.follows rfl rfl rfl rfl rfl rfl (vgetI_stable (stD _)) ⟨?_, ?_, ?_, ?_, ?_, ?_, ?_, ?_, ?_, ?_, ?_, ?_, ?_, ?_, ?_, ?_, ?_, ?_, ?_, ?_, ?_, ?_, ?_, ?_, ?_, ?_, ?_, ?_, ?_, ?_, ?_, ?_, ?_, ?_, ?_, ?_, trivial⟩ ?_
            ·exact oI rfl fun h => yl_fieldAddr fd104_0 rfl (h.old 6 _ rfl rfl) kI
            ·exact oI rfl fun h => yl_load1 ty9 rfl (h.dt 0 52 rfl rfl rfl) (((Box.ex hB156 h.ex).cell 0).trans rfl) kI
            ·intro L196 w197 hi198
             exact OpR.op' rfl (yl_call en65 rfl (oc (hi198.dt 1 53 rfl rfl rfl) (oc rfl oz)) (Cal.mono (c_i_areLetters ((p_0.Idxs.getD k91 d_Idx).Name) 1 (okL.getD o3.2.2 ok_d_Idx _)) fun _ _ h => h))
            ·exact oI rfl fun h => yl_not rfl (h.dt 2 54 rfl rfl rfl) kI
            ·exact oI rfl fun h => yl_move rfl (h.dt 3 55 rfl rfl rfl) kI
            ·exact oW rfl rfl rfl rfl (not_t hb159) fun h => yl_fieldAddr fd104_1 rfl (h.old 6 _ rfl rfl) kI
            ·exact oW rfl rfl rfl rfl (not_t hb159) fun h => yl_load1 ty3 rfl (h.dt 5 57 rfl rfl rfl) (((Box.ex hB156 h.ex).cell 1).trans rfl) kI
            ·exact oW rfl rfl rfl rfl (not_t hb159) fun h => yl_fieldAddr fd34_1 rfl (h.old 1 _ rfl rfl) kI
            ·exact oW rfl rfl rfl rfl (not_t hb159) fun h => yl_load1 ty22 rfl (h.dt 7 59 rfl rfl rfl) (((Box.ex q179 h.ex).cell 1).trans rfl) kI
            ·exact oW rfl rfl rfl rfl (not_t hb159) fun h => yl_len un22 rfl (h.dt 8 60 rfl rfl rfl) kI
            ·exact oW rfl rfl rfl rfl (not_t hb159) fun h => yl_sub rfl (h.dt 9 61 rfl rfl rfl) rfl kI
            ·intro L252 w253 hi254
             exact OpR.want rfl rfl (hi254.dt 4 56 rfl rfl rfl) (not_t hb159) (yl_call en66 rfl (oc (hi254.dt 6 58 rfl rfl rfl) (oc rfl (oc (hi254.dt 10 62 rfl rfl rfl) oz))) (Cal.mono (c_i_within ((p_0.Idxs.getD k91 d_Idx).Col) 1 (IntKind.wrap .i64 ((p_0.Cols.length : Int) - 1))) fun _ _ h => h))
            ·exact oW rfl rfl rfl rfl (not_t hb159) fun h => yl_not rfl (h.dt 11 63 rfl rfl rfl) kI
            ·exact oI rfl fun h => yl_pick_f rfl (h.dt 4 56 rfl rfl rfl) (not_t hb159) (h.dt 12 64 rfl rfl rfl) kI
            ·exact oI rfl fun h => yl_move rfl (h.dt 13 65 rfl rfl rfl) kI
            ·exact oW rfl rfl rfl rfl (not_t hb164) fun h => yl_fieldAddr fd104_2 rfl (h.old 6 _ rfl rfl) kI
            ·exact oW rfl rfl rfl rfl (not_t hb164) fun h => yl_load1 ty3 rfl (h.dt 15 67 rfl rfl rfl) (((Box.ex hB156 h.ex).cell 2).trans rfl) kI
            ·intro L292 w293 hi294
             exact OpR.want rfl rfl (hi294.dt 14 66 rfl rfl rfl) (not_t hb164) (yl_call en67 rfl (oc (hi294.dt 16 68 rfl rfl rfl) oz) (Cal.mono (c_i_isStage ((p_0.Idxs.getD k91 d_Idx).Stage)) fun _ _ h => h))
            ·exact oW rfl rfl rfl rfl (not_t hb164) fun h => yl_not rfl (h.dt 17 69 rfl rfl rfl) kI
            ·exact oI rfl fun h => yl_pick_f rfl (h.dt 14 66 rfl rfl rfl) (not_t hb164) (h.dt 18 70 rfl rfl rfl) kI
            ·exact oI rfl fun h => yl_move rfl (h.dt 19 71 rfl rfl rfl) kI
            ·exact oW rfl rfl rfl rfl (not_t hb170) fun h => yl_move rfl (h.old 5 _ rfl rfl) kI
            ·exact oW rfl rfl rfl rfl (not_t hb170) fun h => yl_gtr rfl (h.dt 21 73 rfl rfl rfl) rfl kI
            ·exact oW rfl rfl rfl rfl (not_t hb170) fun h => yl_move rfl (h.dt 22 74 rfl rfl rfl) kI
            ·exact oW rfl rfl rfl rfl hb176 fun h => yl_fieldAddr fd104_0 rfl (h.old 6 _ rfl rfl) kI
            ·exact oW rfl rfl rfl rfl hb176 fun h => yl_load1 ty9 rfl (h.dt 24 76 rfl rfl rfl) (((Box.ex hB156 h.ex).cell 0).trans rfl) kI
            ·exact oW rfl rfl rfl rfl hb176 fun h => yl_fieldAddr fd34_2 rfl (h.old 1 _ rfl rfl) kI
            ·exact oW rfl rfl rfl rfl hb176 fun h => yl_load1 ty32 rfl (h.dt 26 78 rfl rfl rfl) (((Box.ex q179 h.ex).cell 2).trans rfl) kI
            ·exact oW rfl rfl rfl rfl hb176 fun h => yl_move rfl (h.old 5 _ rfl rfl) kI
            ·exact oW rfl rfl rfl rfl hb176 fun h => yl_sub rfl (h.dt 28 80 rfl rfl rfl) rfl kI
            ·intro L374 w375 hi376
             have hE377 := hi376.ex
             have hE377z := Ex.size hE377
             exact OpR.want rfl rfl (hi376.dt 23 75 rfl rfl rfl) hb176 (Yl.sameI (yl_indexAddr un32 ty104 rfl (hi376.dt 27 79 rfl rfl rfl) (hi376.dt 29 81 rfl rfl rfl) eA184 (by first | omega | assumption | (simp only [wI] at *; omega)) (by first | omega | assumption | (simp only [wI] at *; omega)) kI))
            ·exact oW rfl rfl rfl rfl hb176 fun h => yl_fieldAddr fd104_0 rfl (h.dt 30 82 rfl rfl rfl) kI
            ·exact oW rfl rfl rfl rfl hb176 fun h => yl_load1 ty9 rfl (h.dt 31 83 rfl rfl rfl) ((Cells.ex eC184 h.ex) 0 _ rfl) kI
            ·exact oW rfl rfl rfl rfl hb176 fun h => yl_sleq (a := ((p_0.Idxs.getD k91 d_Idx).Name)) (b := ((p_0.Idxs.getD ((IntKind.wrap .i64 ((k91 : Int) - 1)).toNat) d_Idx).Name)) rfl (h.dt 25 77 rfl rfl rfl) (h.dt 32 84 rfl rfl rfl) kI
            ·exact oW rfl rfl rfl rfl (not_t hb170) fun h => yl_pick_t rfl (h.dt 23 75 rfl rfl rfl) hb176 (h.dt 33 85 rfl rfl rfl) kI
            ·exact oI rfl fun h => yl_pick_f rfl (h.dt 20 72 rfl rfl rfl) (not_t hb170) (h.dt 34 86 rfl rfl rfl) kI
            ·intro fl417 fh418 L414 w415 hp416
             have hE419 := hp416.ex
             have hE419z := Ex.size hE419
             refine dn (CW.sub (Sub.cons (d := 1) (hp416.old 1 _ rfl rfl) (Sub.cons (d := 45) (hp416.old 45 _ rfl rfl) (Sub.cons (d := 46) (hp416.old 46 _ rfl rfl) (Sub.cons (d := 47) (hp416.old 47 _ rfl rfl) (Sub.cons (d := 57) (hp416.nt 5 57 rfl rfl rfl) (Sub.cons (d := 58) (hp416.nt 6 58 rfl rfl rfl) (Sub.cons (d := 59) (hp416.nt 7 59 rfl rfl rfl) (Sub.cons (d := 60) (hp416.nt 8 60 rfl rfl rfl) (Sub.cons (d := 61) (hp416.nt 9 61 rfl rfl rfl) (Sub.cons (d := 62) (hp416.nt 10 62 rfl rfl rfl) (Sub.cons (d := 63) (hp416.nt 11 63 rfl rfl rfl) (Sub.cons (d := 64) (hp416.nt 12 64 rfl rfl rfl) (Sub.cons (d := 67) (hp416.nt 15 67 rfl rfl rfl) (Sub.cons (d := 68) (hp416.nt 16 68 rfl rfl rfl) (Sub.cons (d := 69) (hp416.nt 17 69 rfl rfl rfl) (Sub.cons (d := 70) (hp416.nt 18 70 rfl rfl rfl) (Sub.cons (d := 73) (hp416.nt 21 73 rfl rfl rfl) (Sub.cons (d := 74) (hp416.nt 22 74 rfl rfl rfl) (Sub.cons (d := 75) (hp416.nt 23 75 rfl rfl rfl) (Sub.cons (d := 76) (hp416.nt 24 76 rfl rfl rfl) (Sub.cons (d := 77) (hp416.nt 25 77 rfl rfl rfl) (Sub.cons (d := 78) (hp416.nt 26 78 rfl rfl rfl) (Sub.cons (d := 79) (hp416.nt 27 79 rfl rfl rfl) (Sub.cons (d := 80) (hp416.nt 28 80 rfl rfl rfl) (Sub.cons (d := 81) (hp416.nt 29 81 rfl rfl rfl) (Sub.cons (d := 82) (hp416.nt 30 82 rfl rfl rfl) (Sub.cons (d := 83) (hp416.nt 31 83 rfl rfl rfl) (Sub.cons (d := 84) (hp416.nt 32 84 rfl rfl rfl) (Sub.cons (d := 85) (hp416.nt 33 85 rfl rfl rfl) (Sub.cons (d := 86) (hp416.nt 34 86 rfl rfl rfl) (Sub.cons (d := 87) (hp416.nt 35 87 rfl rfl rfl) (Sub.nil _)))))))))))))))))))))))))))))))) ?_)
             refine bcase (sLe ((p_0.Idxs.getD k91 d_Idx).Name) ((p_0.Idxs.getD ((IntKind.wrap .i64 ((k91 : Int) - 1)).toNat) d_Idx).Name)) (fun hb451 => ?_) (fun hb451 => ?_)
             ·refine CW.cond_t rfl hb451 (CW.seq (CW.region (sd rfl (yl_assign rfl rfl (dn (CW.ret (br (tr ?_))))))))
              refine tr ?_
              have hB453 : B_i_GoodTable_1 p_0 k91 () = .ret false := by simp only [B_i_GoodTable_1, hb16, hb21, hb23, hb159, hb164, hb170, hb176, hb451, hL90, cL]
              have hL452 : loopM (B_i_GoodTable_1 p_0) (p_0.Idxs.length - 0) 0 () = .ret false := hI136.symm.trans (loopM.ret hlt147 hB453)
              refine br (tr (rr rfl (.cons rfl .nil) ?_))
              have hM454 : (i_GoodTable p_0) = (false) := by simp only [i_GoodTable, hb16, hb21, hb23, hb159, hb164, hb170, hb176, hb451, hL90, hL452, cL]
              rw [hM454]
              exact ⟨rfl, (Ex.trans (Below.only (Ex.trans hf145 hE154) hO157 (by omega)) hE419)⟩
             ·refine CW.cond_f rfl hb451 (CW.skip (bn (tn (CW.region (sd rfl (yl_inc rfl rfl rfl (by omega) (sd rfl (yl_move rfl rfl (dn ?_)))))))))
              have hB458 : B_i_GoodTable_1 p_0 k91 () = .cont () := by simp only [B_i_GoodTable_1, hb16, hb21, hb23, hb159, hb164, hb170, hb176, hb451, hL90, cL]
              exact ⟨p_0.Idxs.length - (k91 + 1), by omega, k91 + 1, rfl, hlt147, (by omega), rfl, rfl, rfl, rfl, (Box.ex q179 hE419), (RdS.ex good_Str (RdS.only good_Str (RdS.ex good_Str hf143 hE154) hO157 (by simp only [Iv]; omega)) hE419), (RdS.ex good_Idx q183 hE419), (Ex.trans (Below.only (Ex.trans hf145 hE154) hO157 (by omega)) hE419), (loopM.cont hlt147 hB458).symm.trans hI136⟩
           ·have hb176p := dec_f hb176
            have q469 := Box.only (Box.ex hf142 hE154) hO157 (by omega)
            refine CW.drawsI 36 (vgetI ([.pointer (some ⟨b149, 0 + 0, none⟩), .string (bs ((p_0.Idxs.getD k91 d_Idx).Name)), .bool ((i_areLetters ((p_0.Idxs.getD k91 d_Idx).Name) 1)), .bool (!(i_areLetters ((p_0.Idxs.getD k91 d_Idx).Name) 1)), .bool (!(i_areLetters ((p_0.Idxs.getD k91 d_Idx).Name) 1)), .pointer (some ⟨b149, 0 + 1, none⟩), .int .i64 ((p_0.Idxs.getD k91 d_Idx).Col), .pointer (some ⟨b7, 0 + 1, none⟩), .slice A1 p_0.Cols.length c1, .int .i64 ((p_0.Cols.length : Int)), .int .i64 (IntKind.wrap .i64 ((p_0.Cols.length : Int) - 1)), .bool ((i_within ((p_0.Idxs.getD k91 d_Idx).Col) 1 (IntKind.wrap .i64 ((p_0.Cols.length : Int) - 1)))), .bool (!(i_within ((p_0.Idxs.getD k91 d_Idx).Col) 1 (IntKind.wrap .i64 ((p_0.Cols.length : Int) - 1)))), .bool (!(i_within ((p_0.Idxs.getD k91 d_Idx).Col) 1 (IntKind.wrap .i64 ((p_0.Cols.length : Int) - 1)))), .bool (!(i_within ((p_0.Idxs.getD k91 d_Idx).Col) 1 (IntKind.wrap .i64 ((p_0.Cols.length : Int) - 1)))), .pointer (some ⟨b149, 0 + 2, none⟩), .int .i64 ((p_0.Idxs.getD k91 d_Idx).Stage), .bool ((i_isStage ((p_0.Idxs.getD k91 d_Idx).Stage))), .bool (!(i_isStage ((p_0.Idxs.getD k91 d_Idx).Stage))), .bool (!(i_isStage ((p_0.Idxs.getD k91 d_Idx).Stage))), .bool (!(i_isStage ((p_0.Idxs.getD k91 d_Idx).Stage))), .int .i64 ((k91 : Int)), .bool (decide (0 < (k91 : Int))), .bool (decide (0 < (k91 : Int))), undef, undef, undef, undef, undef, undef, undef, undef, undef, undef, .bool (false), .bool (false)].map DetI)) Tryz.follows rfl rfl rfl rfl rfl rfl (vgetI_stable (stD _)) ⟨?_, ?_, ?_, ?_, ?_, ?_, ?_, ?_, ?_, ?_, ?_, ?_, ?_, ?_, ?_, ?_, ?_, ?_, ?_, ?_, ?_, ?_, ?_, ?_, ?_, ?_, ?_, ?_, ?_, ?_, ?_, ?_, ?_, ?_, ?_, ?_, trivial⟩ ?_
            ·exact oI rfl fun h => yl_fieldAddr fd104_0 rfl (h.old 6 _ rfl rfl) kI
            ·exact oI rfl fun h => yl_load1 ty9 rfl (h.dt 0 52 rfl rfl rfl) (((Box.ex hB156 h.ex).cell 0).trans rfl) kI
            ·intro L483 w484 hi485
             exact OpR.op' rfl (yl_call en65 rfl (oc (hi485.dt 1 53 rfl rfl rfl) (oc rfl oz)) (Cal.mono (c_i_areLetters ((p_0.Idxs.getD k91 d_Idx).Name) 1 (okL.getD o3.2.2 ok_d_Idx _)) fun _ _ h => h))
            ·exact oI rfl fun h => yl_not rfl (h.dt 2 54 rfl rfl rfl) kI
            ·exact oI rfl fun h => yl_move rfl (h.dt 3 55 rfl rfl rfl) kI
            ·exact oW rfl rfl rfl rfl (not_t hb159) fun h => yl_fieldAddr fd104_1 rfl (h.old 6 _ rfl rfl) kI
            ·exact oW rfl rfl rfl rfl (not_t hb159) fun h => yl_load1 ty3 rfl (h.dt 5 57 rfl rfl rfl) (((Box.ex hB156 h.ex).cell 1).trans rfl) kI
            ·exact oW rfl rfl rfl rfl (not_t hb159) fun h => yl_fieldAddr fd34_1 rfl (h.old 1 _ rfl rfl) kI
            ·exact oW rfl rfl rfl rfl (not_t hb159) fun h => yl_load1 ty22 rfl (h.dt 7 59 rfl rfl rfl) (((Box.ex q469 h.ex).cell 1).trans rfl) kI
            ·exact oW rfl rfl rfl rfl (not_t hb159) fun h => yl_len un22 rfl (h.dt 8 60 rfl rfl rfl) kI
            ·exact oW rfl rfl rfl rfl (not_t hb159) fun h => yl_sub rfl (h.dt 9 61 rfl rfl rfl) rfl kI
            ·intro L539 w540 hi541
             exact OpR.want rfl rfl (hi541.dt 4 56 rfl rfl rfl) (not_t hb159) (yl_call en66 rfl (oc (hi541.dt 6 58 rfl rfl rfl) (oc rfl (oc (hi541.dt 10 62 rfl rfl rfl) oz))) (Cal.mono (c_i_within ((p_0.Idxs.getD k91 d_Idx).Col) 1 (IntKind.wrap .i64 ((p_0.Cols.length : Int) - 1))) fun _ _ h => h))
            ·exact oW rfl rfl rfl rfl (not_t hb159) fun h => yl_not rfl (h.dt 11 63 rfl rfl rfl) kI
            ·exact oI rfl fun h => yl_pick_f rfl (h.dt 4 56 rfl rfl rfl) (not_t hb159) (h.dt 12 64 rfl rfl rfl) kI
            ·exact oI rfl fun h => yl_move rfl (h.dt 13 65 rfl rfl rfl) kI
            ·exact oW rfl rfl rfl rfl (not_t hb164) fun h => yl_fieldAddr fd104_2 rfl (h.old 6 _ rfl rfl) kI
            ·exact oW rfl rfl rfl rfl (not_t hb164) fun h => yl_load1 ty3 rfl (h.dt 15 67 rfl rfl rfl) (((Box.ex hB156 h.ex).cell 2).trans rfl) kI
            ·intro L579 w580 hi581
             exact OpR.want rfl rfl (hi581.dt 14 66 rfl rfl rfl) (not_t hb164) (yl_call en67 rfl (oc (hi581.dt 16 68 rfl rfl rfl) oz) (Cal.mono (c_i_isStage ((p_0.Idxs.getD k91 d_Idx).Stage)) fun _ _ h => h))
            ·exact oW rfl rfl rfl rfl (not_t hb164) fun h => yl_not rfl (h.dt 17 69 rfl rfl rfl) kI
            ·exact oI rfl fun h => yl_pick_f rfl (h.dt 14 66 rfl rfl rfl) (not_t hb164) (h.dt 18 70 rfl rfl rfl) kI
            ·exact oI rfl fun h => yl_move rfl (h.dt 19 71 rfl rfl rfl) kI
            ·exact oW rfl rfl rfl rfl (not_t hb170) fun h => yl_move rfl (h.old 5 _ rfl rfl) kI
            ·exact oW rfl rfl rfl rfl (not_t hb170) fun h => yl_gtr rfl (h.dt 21 73 rfl rfl rfl) rfl kI
            ·exact oW rfl rfl rfl rfl (not_t hb170) fun h => yl_move rfl (h.dt 22 74 rfl rfl rfl) kI
            ·exact oS rfl rfl rfl rfl rfl hb176
            ·exact oS rfl rfl rfl rfl rfl hb176
            ·exact oS rfl rfl rfl rfl rfl hb176
            ·exact oS rfl rfl rfl rfl rfl hb176
            ·exact oS rfl rfl rfl rfl rfl hb176
            ·exact oS rfl rfl rfl rfl rfl hb176
            ·exact oS rfl rfl rfl rfl rfl hb176
            ·exact oS rfl rfl rfl rfl rfl hb176
            ·exact oS rfl rfl rfl rfl rfl hb176
            ·exact oS rfl rfl rfl rfl rfl hb176
            ·exact oW rfl rfl rfl rfl (not_t hb170) fun h => yl_pick_f rfl (h.dt 23 75 rfl rfl rfl) hb176 rfl kI
            ·exact oI rfl fun h => yl_pick_f rfl (h.dt 20 72 rfl rfl rfl) (not_t hb170) (h.dt 34 86 rfl rfl rfl) kI
            ·intro fl689 fh690 L686 w687 hp688
             have hE691 := hp688.ex
             have hE691z := Ex.size hE691
             refine dn (CW.sub (Sub.cons (d := 1) (hp688.old 1 _ rfl rfl) (Sub.cons (d := 45) (hp688.old 45 _ rfl rfl) (Sub.cons (d := 46) (hp688.old 46 _ rfl rfl) (Sub.cons (d := 47) (hp688.old 47 _ rfl rfl) (Sub.cons (d := 57) (hp688.nt 5 57 rfl rfl rfl) (Sub.cons (d := 58) (hp688.nt 6 58 rfl rfl rfl) (Sub.cons (d := 59) (hp688.nt 7 59 rfl rfl rfl) (Sub.cons (d := 60) (hp688.nt 8 60 rfl rfl rfl) (Sub.cons (d := 61) (hp688.nt 9 61 rfl rfl rfl) (Sub.cons (d := 62) (hp688.nt 10 62 rfl rfl rfl) (Sub.cons (d := 63) (hp688.nt 11 63 rfl rfl rfl) (Sub.cons (d := 64) (hp688.nt 12 64 rfl rfl rfl) (Sub.cons (d := 67) (hp688.nt 15 67 rfl rfl rfl) (Sub.cons (d := 68) (hp688.nt 16 68 rfl rfl rfl) (Sub.cons (d := 69) (hp688.nt 17 69 rfl rfl rfl) (Sub.cons (d := 70) (hp688.nt 18 70 rfl rfl rfl) (Sub.cons (d := 73) (hp688.nt 21 73 rfl rfl rfl) (Sub.cons (d := 74) (hp688.nt 22 74 rfl rfl rfl) (Sub.cons (d := 75) (hp688.nt 23 75 rfl rfl rfl) (Sub.cons (d := 76) (hp688.nt 24 76 rfl rfl rfl) (Sub.cons (d := 77) (hp688.nt 25 77 rfl rfl rfl) (Sub.cons (d := 78) (hp688.nt 26 78 rfl rfl rfl) (Sub.cons (d := 79) (hp688.nt 27 79 rfl rfl rfl) (Sub.cons (d := 80) (hp688.nt 28 80 rfl rfl rfl) (Sub.cons (d := 81) (hp688.nt 29 81 rfl rfl rfl) (Sub.cons (d := 82) (hp688.nt 30 82 rfl rfl rfl) (Sub.cons (d := 83) (hp688.nt 31 83 rfl rfl rfl) (Sub.cons (d := 84) (hp688.nt 32 84 rfl rfl rfl) (Sub.cons (d := 85) (hp688.nt 33 85 rfl rfl rfl) (Sub.cons (d := 86) (hp688.nt 34 86 rfl rfl rfl) (Sub.cons (d := 87) (hp688.nt 35 87 rfl rfl rfl) (Sub.nil _)))))))))))))))))))))))))))))))) ?_)
             refine CW.cond_f rfl rfl (CW.skip (bn (tn (CW.region (sd rfl (yl_inc rfl rfl rfl (by omega) (sd rfl (yl_move rfl rfl (dn ?_)))))))))
             have hB723 : B_i_GoodTable_1 p_0 k91 () = .cont () := by simp only [B_i_GoodTable_1, hb16, hb21, hb23, hb159, hb164, hb170, hb176, hL90, cL]
             exact ⟨p_0.Idxs.length - (k91 + 1), by omega, k91 + 1, rfl, hlt147, (by omega), rfl, rfl, rfl, rfl, (Box.ex q469 hE691), (RdS.ex good_Str (RdS.only good_Str (RdS.ex good_Str hf143 hE154) hO157 (by simp only [Iv]; omega)) hE691), (RdS.ex good_Idx (RdS.only good_Idx (RdS.ex good_Idx hf144 hE154) hO157 (by simp only [Iv]; omega)) hE691), (Ex.trans (Below.only (Ex.trans hf145 hE154) hO157 (by omega)) hE691), (loopM.cont hlt147 hB723).symm.trans hI136⟩
          ·refine CW.drawsI 36 (vgetI ([.pointer (some ⟨b149, 0 + 0, none⟩), .string (bs ((p_0.Idxs.getD k91 d_Idx).Name)), .bool ((i_areLetters ((p_0.Idxs.getD k91 d_Idx).Name) 1)), .bool (!(i_areLetters ((p_0.Idxs.getD k91 d_Idx).Name) 1)), .bool (!(i_areLetters ((p_0.Idxs.getD k91 d_Idx).Name) 1)), .pointer (some ⟨b149, 0 + 1, none⟩), .int .i64 ((p_0.Idxs.getD k91 d_Idx).Col), .pointer (some ⟨b7, 0 + 1, none⟩), .slice A1 p_0.Cols.length c1, .int .i64 ((p_0.Cols.length : Int)), .int .i64 (IntKind.wrap .i64 ((p_0.Cols.length : Int) - 1)), .bool ((i_within ((p_0.Idxs.getD k91 d_Idx).Col) 1 (IntKind.wrap .i64 ((p_0.Cols.length : Int) - 1)))), .bool (!(i_within ((p_0.Idxs.getD k91 d_Idx).Col) 1 (IntKind.wrap .i64 ((p_0.Cols.length : Int) - 1)))), .bool (!(i_within ((p_0.Idxs.getD k91 d_Idx).Col) 1 (IntKind.wrap .i64 ((p_0.Cols.length : Int) - 1)))), .bool (!(i_within ((p_0.Idxs.getD k91 d_Idx).Col) 1 (IntKind.wrap .i64 ((p_0.Cols.length : Int) - 1)))), .pointer (some ⟨b149, 0 + 2, none⟩), .int .i64 ((p_0.Idxs.getD k91 d_Idx).Stage), .bool ((i_isStage ((p_0.Idxs.getD k91 d_Idx).Stage))), .bool (!(i_isStage ((p_0.Idxs.getD k91 d_Idx).Stage))), .bool (!(i_isStage ((p_0.Idxs.getD k91 d_Idx).Stage))), .bool (!(i_isStage ((p_0.Idxs.getD k91 d_Idx).Stage))), undef, undef, undef, undef, undef, undef, undef, undef, undef, undef, undef, undef, undef, undef, .bool (true)].map DetI)) Tryz.follows rfl rfl rfl rfl rfl rfl (vgetI_stable (stD _)) ⟨?_, ?_, ?_, ?_, ?_, ?_, ?_, ?_, ?_, ?_, ?_, ?_, ?_, ?_, ?_, ?_, ?_, ?_, ?_, ?_, ?_, ?_, ?_, ?_, ?_, ?_, ?_, ?_, ?_, ?_, ?_, ?_, ?_, ?_, ?_, ?_, trivial⟩ ?_
           ·exact oI rfl fun h => yl_fieldAddr fd104_0 rfl (h.old 6 _ rfl rfl) kI
           ·exact oI rfl fun h => yl_load1 ty9 rfl (h.dt 0 52 rfl rfl rfl) (((Box.ex hB156 h.ex).cell 0).trans rfl) kI
           ·intro L750 w751 hi752
            exact OpR.op' rfl (yl_call en65 rfl (oc (hi752.dt 1 53 rfl rfl rfl) (oc rfl oz)) (Cal.mono (c_i_areLetters ((p_0.Idxs.getD k91 d_Idx).Name) 1 (okL.getD o3.2.2 ok_d_Idx _)) fun _ _ h => h))
           ·exact oI rfl fun h => yl_not rfl (h.dt 2 54 rfl rfl rfl) kI
           ·exact oI rfl fun h => yl_move rfl (h.dt 3 55 rfl rfl rfl) kI
           ·exact oW rfl rfl rfl rfl (not_t hb159) fun h => yl_fieldAddr fd104_1 rfl (h.old 6 _ rfl rfl) kI
           ·exact oW rfl rfl rfl rfl (not_t hb159) fun h => yl_load1 ty3 rfl (h.dt 5 57 rfl rfl rfl) (((Box.ex hB156 h.ex).cell 1).trans rfl) kI
           ·exact oW rfl rfl rfl rfl (not_t hb159) fun h => yl_fieldAddr fd34_1 rfl (h.old 1 _ rfl rfl) kI
           ·intro L787 w788 hi789
            have hE790 := hi789.ex
            have hE790z := Ex.size hE790
            exact OpR.want rfl rfl (hi789.dt 4 56 rfl rfl rfl) (not_t hb159) (Yl.sameI (yl_load1 ty22 rfl (hi789.dt 7 59 rfl rfl rfl) (((Box.ex (Box.only (Box.ex hf142 hE154) hO157 (by omega)) hE790).cell 1).trans rfl) kI))
           ·exact oW rfl rfl rfl rfl (not_t hb159) fun h => yl_len un22 rfl (h.dt 8 60 rfl rfl rfl) kI
           ·exact oW rfl rfl rfl rfl (not_t hb159) fun h => yl_sub rfl (h.dt 9 61 rfl rfl rfl) rfl kI
           ·intro L806 w807 hi808
            exact OpR.want rfl rfl (hi808.dt 4 56 rfl rfl rfl) (not_t hb159) (yl_call en66 rfl (oc (hi808.dt 6 58 rfl rfl rfl) (oc rfl (oc (hi808.dt 10 62 rfl rfl rfl) oz))) (Cal.mono (c_i_within ((p_0.Idxs.getD k91 d_Idx).Col) 1 (IntKind.wrap .i64 ((p_0.Cols.length : Int) - 1))) fun _ _ h => h))
           ·exact oW rfl rfl rfl rfl (not_t hb159) fun h => yl_not rfl (h.dt 11 63 rfl rfl rfl) kI
           ·exact oI rfl fun h => yl_pick_f rfl (h.dt 4 56 rfl rfl rfl) (not_t hb159) (h.dt 12 64 rfl rfl rfl) kI
           ·exact oI rfl fun h => yl_move rfl (h.dt 13 65 rfl rfl rfl) kI
           ·exact oW rfl rfl rfl rfl (not_t hb164) fun h => yl_fieldAddr fd104_2 rfl (h.old 6 _ rfl rfl) kI
           ·exact oW rfl rfl rfl rfl (not_t hb164) fun h => yl_load1 ty3 rfl (h.dt 15 67 rfl rfl rfl) (((Box.ex hB156 h.ex).cell 2).trans rfl) kI
           ·intro L846 w847 hi848
            exact OpR.want rfl rfl (hi848.dt 14 66 rfl rfl rfl) (not_t hb164) (yl_call en67 rfl (oc (hi848.dt 16 68 rfl rfl rfl) oz) (Cal.mono (c_i_isStage ((p_0.Idxs.getD k91 d_Idx).Stage)) fun _ _ h => h))
           ·exact oW rfl rfl rfl rfl (not_t hb164) fun h => yl_not rfl (h.dt 17 69 rfl rfl rfl) kI
           ·exact oI rfl fun h => yl_pick_f rfl (h.dt 14 66 rfl rfl rfl) (not_t hb164) (h.dt 18 70 rfl rfl rfl) kI
           ·exact oI rfl fun h => yl_move rfl (h.dt 19 71 rfl rfl rfl) kI
           ·exact oS rfl rfl rfl rfl rfl (not_f hb170)
           ·exact oS rfl rfl rfl rfl rfl (not_f hb170)
           ·exact oS rfl rfl rfl rfl rfl (not_f hb170)
           ·exact oU rfl rfl rfl rfl rfl
           ·exact oU rfl rfl rfl rfl rfl
           ·exact oU rfl rfl rfl rfl rfl
           ·exact oU rfl rfl rfl rfl rfl
           ·exact oU rfl rfl rfl rfl rfl
           ·exact oU rfl rfl rfl rfl rfl
           ·exact oU rfl rfl rfl rfl rfl
           ·exact oU rfl rfl rfl rfl rfl
           ·exact oU rfl rfl rfl rfl rfl
           ·exact oU rfl rfl rfl rfl rfl
           ·exact oS rfl rfl rfl rfl rfl (not_f hb170)
           ·exact oI rfl fun h => yl_pick_t rfl (h.dt 20 72 rfl rfl rfl) (not_f hb170) rfl kI
           ·intro fl951 fh952 L948 w949 hp950
            have hE953 := hp950.ex
            have hE953z := Ex.size hE953
            refine dn (CW.sub (Sub.cons (d := 1) (hp950.old 1 _ rfl rfl) (Sub.cons (d := 45) (hp950.old 45 _ rfl rfl) (Sub.cons (d := 46) (hp950.old 46 _ rfl rfl) (Sub.cons (d := 47) (hp950.old 47 _ rfl rfl) (Sub.cons (d := 57) (hp950.nt 5 57 rfl rfl rfl) (Sub.cons (d := 58) (hp950.nt 6 58 rfl rfl rfl) (Sub.cons (d := 59) (hp950.nt 7 59 rfl rfl rfl) (Sub.cons (d := 60) (hp950.nt 8 60 rfl rfl rfl) (Sub.cons (d := 61) (hp950.nt 9 61 rfl rfl rfl) (Sub.cons (d := 62) (hp950.nt 10 62 rfl rfl rfl) (Sub.cons (d := 63) (hp950.nt 11 63 rfl rfl rfl) (Sub.cons (d := 64) (hp950.nt 12 64 rfl rfl rfl) (Sub.cons (d := 67) (hp950.nt 15 67 rfl rfl rfl) (Sub.cons (d := 68) (hp950.nt 16 68 rfl rfl rfl) (Sub.cons (d := 69) (hp950.nt 17 69 rfl rfl rfl) (Sub.cons (d := 70) (hp950.nt 18 70 rfl rfl rfl) (Sub.cons (d := 73) (hp950.nt 21 73 rfl rfl rfl) (Sub.cons (d := 74) (hp950.nt 22 74 rfl rfl rfl) (Sub.cons (d := 75) (hp950.nt 23 75 rfl rfl rfl) (Sub.cons (d := 76) (hp950.nt 24 76 rfl rfl rfl) (Sub.cons (d := 77) (hp950.nt 25 77 rfl rfl rfl) (Sub.cons (d := 78) (hp950.nt 26 78 rfl rfl rfl) (Sub.cons (d := 79) (hp950.nt 27 79 rfl rfl rfl) (Sub.cons (d := 80) (hp950.nt 28 80 rfl rfl rfl) (Sub.cons (d := 81) (hp950.nt 29 81 rfl rfl rfl) (Sub.cons (d := 82) (hp950.nt 30 82 rfl rfl rfl) (Sub.cons (d := 83) (hp950.nt 31 83 rfl rfl rfl) (Sub.cons (d := 84) (hp950.nt 32 84 rfl rfl rfl) (Sub.cons (d := 85) (hp950.nt 33 85 rfl rfl rfl) (Sub.cons (d := 86) (hp950.nt 34 86 rfl rfl rfl) (Sub.cons (d := 87) (hp950.nt 35 87 rfl rfl rfl) (Sub.nil _)))))))))))))))))))))))))))))))) ?_)
            refine CW.cond_t rfl rfl (CW.seq (CW.region (sd rfl (yl_assign rfl rfl (dn (CW.ret (br (tr ?_))))))))
            refine tr ?_
            have hB986 : B_i_GoodTable_1 p_0 k91 () = .ret false := by simp only [B_i_GoodTable_1, hb16, hb21, hb23, hb159, hb164, hb170, hL90, cL]
            have hL985 : loopM (B_i_GoodTable_1 p_0) (p_0.Idxs.length - 0) 0 () = .ret false := hI136.symm.trans (loopM.ret hlt147 hB986)
            refine br (tr (rr rfl (.cons rfl .nil) ?_))
            have hM987 : (i_GoodTable p_0) = (false) := by simp only [i_GoodTable, hb16, hb21, hb23, hb159, hb164, hb170, hL90, hL985, cL]
            rw [hM987]
            exact ⟨rfl, (Ex.trans (Below.only (Ex.trans hf145 hE154) hO157 (by omega)) hE953)⟩
         ·refine CW.drawsI 36 (vgetI ([.pointer (some ⟨b149, 0 + 0, none⟩), .string (bs ((p_0.Idxs.getD k91 d_Idx).Name)), .bool ((i_areLetters ((p_0.Idxs.getD k91 d_Idx).Name) 1)), .bool (!(i_areLetters ((p_0.Idxs.getD k91 d_Idx).Name) 1)), .bool (!(i_areLetters ((p_0.Idxs.getD k91 d_Idx).Name) 1)), .pointer (some ⟨b149, 0 + 1, none⟩), .int .i64 ((p_0.Idxs.getD k91 d_Idx).Col), .pointer (some ⟨b7, 0 + 1, none⟩), .slice A1 p_0.Cols.length c1, .int .i64 ((p_0.Cols.length : Int)), .int .i64 (IntKind.wrap .i64 ((p_0.Cols.length : Int) - 1)), .bool ((i_within ((p_0.Idxs.getD k91 d_Idx).Col) 1 (IntKind.wrap .i64 ((p_0.Cols.length : Int) - 1)))), .bool (!(i_within ((p_0.Idxs.getD k91 d_Idx).Col) 1 (IntKind.wrap .i64 ((p_0.Cols.length : Int) - 1)))), .bool (!(i_within ((p_0.Idxs.getD k91 d_Idx).Col) 1 (IntKind.wrap .i64 ((p_0.Cols.length : Int) - 1)))), .bool (!(i_within ((p_0.Idxs.getD k91 d_Idx).Col) 1 (IntKind.wrap .i64 ((p_0.Cols.length : Int) - 1)))), undef, undef, undef, undef, .bool (true), .bool (true), undef, undef, undef, undef, undef, undef, undef, undef, undef, undef, undef, undef, undef, undef, .bool (true)].map DetI)) Tryz.follows rfl rfl rfl rfl rfl rfl (vgetI_stable (stD _)) ⟨?_, ?_, ?_, ?_, ?_, ?_, ?_, ?_, ?_, ?_, ?_, ?_, ?_, ?_, ?_, ?_, ?_, ?_, ?_, ?_, ?_, ?_, ?_, ?_, ?_, ?_, ?_, ?_, ?_, ?_, ?_, ?_, ?_, ?_, ?_, ?_, trivial⟩ ?_
          ·exact oI rfl fun h => yl_fieldAddr fd104_0 rfl (h.old 6 _ rfl rfl) kI
          ·exact oI rfl fun h => yl_load1 ty9 rfl (h.dt 0 52 rfl rfl rfl) (((Box.ex hB156 h.ex).cell 0).trans rfl) kI
          ·intro L1006 w1007 hi1008
           exact OpR.op' rfl (yl_call en65 rfl (oc (hi1008.dt 1 53 rfl rfl rfl) (oc rfl oz)) (Cal.mono (c_i_areLetters ((p_0.Idxs.getD k91 d_Idx).Name) 1 (okL.getD o3.2.2 ok_d_Idx _)) fun _ _ h => h))
          ·exact oI rfl fun h => yl_not rfl (h.dt 2 54 rfl rfl rfl) kI
          ·exact oI rfl fun h => yl_move rfl (h.dt 3 55 rfl rfl rfl) kI
          ·exact oW rfl rfl rfl rfl (not_t hb159) fun h => yl_fieldAddr fd104_1 rfl (h.old 6 _ rfl rfl) kI
          ·exact oW rfl rfl rfl rfl (not_t hb159) fun h => yl_load1 ty3 rfl (h.dt 5 57 rfl rfl rfl) (((Box.ex hB156 h.ex).cell 1).trans rfl) kI
          ·exact oW rfl rfl rfl rfl (not_t hb159) fun h => yl_fieldAddr fd34_1 rfl (h.old 1 _ rfl rfl) kI
          ·intro L1043 w1044 hi1045
           have hE1046 := hi1045.ex
           have hE1046z := Ex.size hE1046
           exact OpR.want rfl rfl (hi1045.dt 4 56 rfl rfl rfl) (not_t hb159) (Yl.sameI (yl_load1 ty22 rfl (hi1045.dt 7 59 rfl rfl rfl) (((Box.ex (Box.only (Box.ex hf142 hE154) hO157 (by omega)) hE1046).cell 1).trans rfl) kI))
          ·exact oW rfl rfl rfl rfl (not_t hb159) fun h => yl_len un22 rfl (h.dt 8 60 rfl rfl rfl) kI
          ·exact oW rfl rfl rfl rfl (not_t hb159) fun h => yl_sub rfl (h.dt 9 61 rfl rfl rfl) rfl kI
          ·intro L1062 w1063 hi1064
           exact OpR.want rfl rfl (hi1064.dt 4 56 rfl rfl rfl) (not_t hb159) (yl_call en66 rfl (oc (hi1064.dt 6 58 rfl rfl rfl) (oc rfl (oc (hi1064.dt 10 62 rfl rfl rfl) oz))) (Cal.mono (c_i_within ((p_0.Idxs.getD k91 d_Idx).Col) 1 (IntKind.wrap .i64 ((p_0.Cols.length : Int) - 1))) fun _ _ h => h))
          ·exact oW rfl rfl rfl rfl (not_t hb159) fun h => yl_not rfl (h.dt 11 63 rfl rfl rfl) kI
          ·exact oI rfl fun h => yl_pick_f rfl (h.dt 4 56 rfl rfl rfl) (not_t hb159) (h.dt 12 64 rfl rfl rfl) kI
          ·exact oI rfl fun h => yl_move rfl (h.dt 13 65 rfl rfl rfl) kI
          ·exact oS rfl rfl rfl rfl rfl (not_f hb164)
          ·exact oS rfl rfl rfl rfl rfl (not_f hb164)
          ·exact oS rfl rfl rfl rfl rfl (not_f hb164)
          ·exact oS rfl rfl rfl rfl rfl (not_f hb164)
          ·exact oI rfl fun h => yl_pick_t rfl (h.dt 14 66 rfl rfl rfl) (not_f hb164) rfl kI
          ·exact oI rfl fun h => yl_move rfl (h.dt 19 71 rfl rfl rfl) kI
          ·exact oS rfl rfl rfl rfl rfl rfl
          ·exact oS rfl rfl rfl rfl rfl rfl
          ·exact oS rfl rfl rfl rfl rfl rfl
          ·exact oU rfl rfl rfl rfl rfl
          ·exact oU rfl rfl rfl rfl rfl
          ·exact oU rfl rfl rfl rfl rfl
          ·exact oU rfl rfl rfl rfl rfl
          ·exact oU rfl rfl rfl rfl rfl
          ·exact oU rfl rfl rfl rfl rfl
          ·exact oU rfl rfl rfl rfl rfl
          ·exact oU rfl rfl rfl rfl rfl
          ·exact oU rfl rfl rfl rfl rfl
          ·exact oU rfl rfl rfl rfl rfl
          ·exact oS rfl rfl rfl rfl rfl rfl
          ·exact oI rfl fun h => yl_pick_t rfl (h.dt 20 72 rfl rfl rfl) rfl rfl kI
          ·intro fl1199 fh1200 L1196 w1197 hp1198
           have hE1201 := hp1198.ex
           have hE1201z := Ex.size hE1201
           refine dn (CW.sub (Sub.cons (d := 1) (hp1198.old 1 _ rfl rfl) (Sub.cons (d := 45) (hp1198.old 45 _ rfl rfl) (Sub.cons (d := 46) (hp1198.old 46 _ rfl rfl) (Sub.cons (d := 47) (hp1198.old 47 _ rfl rfl) (Sub.cons (d := 57) (hp1198.nt 5 57 rfl rfl rfl) (Sub.cons (d := 58) (hp1198.nt 6 58 rfl rfl rfl) (Sub.cons (d := 59) (hp1198.nt 7 59 rfl rfl rfl) (Sub.cons (d := 60) (hp1198.nt 8 60 rfl rfl rfl) (Sub.cons (d := 61) (hp1198.nt 9 61 rfl rfl rfl) (Sub.cons (d := 62) (hp1198.nt 10 62 rfl rfl rfl) (Sub.cons (d := 63) (hp1198.nt 11 63 rfl rfl rfl) (Sub.cons (d := 64) (hp1198.nt 12 64 rfl rfl rfl) (Sub.cons (d := 67) (hp1198.nt 15 67 rfl rfl rfl) (Sub.cons (d := 68) (hp1198.nt 16 68 rfl rfl rfl) (Sub.cons (d := 69) (hp1198.nt 17 69 rfl rfl rfl) (Sub.cons (d := 70) (hp1198.nt 18 70 rfl rfl rfl) (Sub.cons (d := 73) (hp1198.nt 21 73 rfl rfl rfl) (Sub.cons (d := 74) (hp1198.nt 22 74 rfl rfl rfl) (Sub.cons (d := 75) (hp1198.nt 23 75 rfl rfl rfl) (Sub.cons (d := 76) (hp1198.nt 24 76 rfl rfl rfl) (Sub.cons (d := 77) (hp1198.nt 25 77 rfl rfl rfl) (Sub.cons (d := 78) (hp1198.nt 26 78 rfl rfl rfl) (Sub.cons (d := 79) (hp1198.nt 27 79 rfl rfl rfl) (Sub.cons (d := 80) (hp1198.nt 28 80 rfl rfl rfl) (Sub.cons (d := 81) (hp1198.nt 29 81 rfl rfl rfl) (Sub.cons (d := 82) (hp1198.nt 30 82 rfl rfl rfl) (Sub.cons (d := 83) (hp1198.nt 31 83 rfl rfl rfl) (Sub.cons (d := 84) (hp1198.nt 32 84 rfl rfl rfl) (Sub.cons (d := 85) (hp1198.nt 33 85 rfl rfl rfl) (Sub.cons (d := 86) (hp1198.nt 34 86 rfl rfl rfl) (Sub.cons (d := 87) (hp1198.nt 35 87 rfl rfl rfl) (Sub.nil _)))))))))))))))))))))))))))))))) ?_)
           refine CW.cond_t rfl rfl (CW.seq (CW.region (sd rfl (yl_assign rfl rfl (dn (CW.ret (br (tr ?_))))))))
           refine tr ?_
           have hB1234 : B_i_GoodTable_1 p_0 k91 () = .ret false := by simp only [B_i_GoodTable_1, hb16, hb21, hb23, hb159, hb164, hL90, cL]
           have hL1233 : loopM (B_i_GoodTable_1 p_0) (p_0.Idxs.length - 0) 0 () = .ret false := hI136.symm.trans (loopM.ret hlt147 hB1234)
           refine br (tr (rr rfl (.cons rfl .nil) ?_))
           have hM1235 : (i_GoodTable p_0) = (false) := by simp only [i_GoodTable, hb16, hb21, hb23, hb159, hb164, hL90, hL1233, cL]
           rw [hM1235]
           exact ⟨rfl, (Ex.trans (Below.only (Ex.trans hf145 hE154) hO157 (by omega)) hE1201)⟩
        ·refine CW.drawsI 36 (vgetI ([.pointer (some ⟨b149, 0 + 0, none⟩), .string (bs ((p_0.Idxs.getD k91 d_Idx).Name)), .bool ((i_areLetters ((p_0.Idxs.getD k91 d_Idx).Name) 1)), .bool (!(i_areLetters ((p_0.Idxs.getD k91 d_Idx).Name) 1)), .bool (!(i_areLetters ((p_0.Idxs.getD k91 d_Idx).Name) 1)), undef, undef, undef, undef, undef, undef, undef, undef, .bool (true), .bool (true), undef, undef, undef, undef, .bool (true), .bool (true), undef, undef, undef, undef, undef, undef, undef, undef, undef, undef, undef, undef, undef, undef, .bool (true)].map DetI)) Tryz.follows rfl rfl rfl rfl rfl rfl (vgetI_stable (stD _)) ⟨?_, ?_, ?_, ?_, ?_, ?_, ?_, ?_, ?_, ?_, ?_, ?_, ?_, ?_, ?_, ?_, ?_, ?_, ?_, ?_, ?_, ?_, ?_, ?_, ?_, ?_, ?_, ?_, ?_, ?_, ?_, ?_, ?_, ?_, ?_, ?_, trivial⟩ ?_
         ·exact oI rfl fun h => yl_fieldAddr fd104_0 rfl (h.old 6 _ rfl rfl) kI
         ·exact oI rfl fun h => yl_load1 ty9 rfl (h.dt 0 52 rfl rfl rfl) (((Box.ex hB156 h.ex).cell 0).trans rfl) kI
         ·intro L1251 w1252 hi1253
          exact OpR.op' rfl (yl_call en65 rfl (oc (hi1253.dt 1 53 rfl rfl rfl) (oc rfl oz)) (Cal.mono (c_i_areLetters ((p_0.Idxs.getD k91 d_Idx).Name) 1 (okL.getD o3.2.2 ok_d_Idx _)) fun _ _ h => h))
         ·exact oI rfl fun h => yl_not rfl (h.dt 2 54 rfl rfl rfl) kI
         ·exact oI rfl fun h => yl_move rfl (h.dt 3 55 rfl rfl rfl) kI
         ·exact oS rfl rfl rfl rfl rfl (not_f hb159)
         ·exact oS rfl rfl rfl rfl rfl (not_f hb159)
         ·exact oS rfl rfl rfl rfl rfl (not_f hb159)
         ·exact oS rfl rfl rfl rfl rfl (not_f hb159)
         ·exact oS rfl rfl rfl rfl rfl (not_f hb159)
         ·exact oS rfl rfl rfl rfl rfl (not_f hb159)
         ·exact oS rfl rfl rfl rfl rfl (not_f hb159)
         ·exact oS rfl rfl rfl rfl rfl (not_f hb159)
         ·exact oI rfl fun h => yl_pick_t rfl (h.dt 4 56 rfl rfl rfl) (not_f hb159) rfl kI
         ·exact oI rfl fun h => yl_move rfl (h.dt 13 65 rfl rfl rfl) kI
         ·exact oS rfl rfl rfl rfl rfl rfl
         ·exact oS rfl rfl rfl rfl rfl rfl
         ·exact oS rfl rfl rfl rfl rfl rfl
         ·exact oS rfl rfl rfl rfl rfl rfl
         ·exact oI rfl fun h => yl_pick_t rfl (h.dt 14 66 rfl rfl rfl) rfl rfl kI
         ·exact oI rfl fun h => yl_move rfl (h.dt 19 71 rfl rfl rfl) kI
         ·exact oS rfl rfl rfl rfl rfl rfl
         ·exact oS rfl rfl rfl rfl rfl rfl
         ·exact oS rfl rfl rfl rfl rfl rfl
         ·exact oU rfl rfl rfl rfl rfl
         ·exact oU rfl rfl rfl rfl rfl
         ·exact oU rfl rfl rfl rfl rfl
         ·exact oU rfl rfl rfl rfl rfl
         ·exact oU rfl rfl rfl rfl rfl
         ·exact oU rfl rfl rfl rfl rfl
         ·exact oU rfl rfl rfl rfl rfl
         ·exact oU rfl rfl rfl rfl rfl
         ·exact oU rfl rfl rfl rfl rfl
         ·exact oU rfl rfl rfl rfl rfl
         ·exact oS rfl rfl rfl rfl rfl rfl
         ·exact oI rfl fun h => yl_pick_t rfl (h.dt 20 72 rfl rfl rfl) rfl rfl kI
         ·intro fl1430 fh1431 L1427 w1428 hp1429
          have hE1432 := hp1429.ex
          have hE1432z := Ex.size hE1432
          refine dn (CW.sub (Sub.cons (d := 1) (hp1429.old 1 _ rfl rfl) (Sub.cons (d := 45) (hp1429.old 45 _ rfl rfl) (Sub.cons (d := 46) (hp1429.old 46 _ rfl rfl) (Sub.cons (d := 47) (hp1429.old 47 _ rfl rfl) (Sub.cons (d := 57) (hp1429.nt 5 57 rfl rfl rfl) (Sub.cons (d := 58) (hp1429.nt 6 58 rfl rfl rfl) (Sub.cons (d := 59) (hp1429.nt 7 59 rfl rfl rfl) (Sub.cons (d := 60) (hp1429.nt 8 60 rfl rfl rfl) (Sub.cons (d := 61) (hp1429.nt 9 61 rfl rfl rfl) (Sub.cons (d := 62) (hp1429.nt 10 62 rfl rfl rfl) (Sub.cons (d := 63) (hp1429.nt 11 63 rfl rfl rfl) (Sub.cons (d := 64) (hp1429.nt 12 64 rfl rfl rfl) (Sub.cons (d := 67) (hp1429.nt 15 67 rfl rfl rfl) (Sub.cons (d := 68) (hp1429.nt 16 68 rfl rfl rfl) (Sub.cons (d := 69) (hp1429.nt 17 69 rfl rfl rfl) (Sub.cons (d := 70) (hp1429.nt 18 70 rfl rfl rfl) (Sub.cons (d := 73) (hp1429.nt 21 73 rfl rfl rfl) (Sub.cons (d := 74) (hp1429.nt 22 74 rfl rfl rfl) (Sub.cons (d := 75) (hp1429.nt 23 75 rfl rfl rfl) (Sub.cons (d := 76) (hp1429.nt 24 76 rfl rfl rfl) (Sub.cons (d := 77) (hp1429.nt 25 77 rfl rfl rfl) (Sub.cons (d := 78) (hp1429.nt 26 78 rfl rfl rfl) (Sub.cons (d := 79) (hp1429.nt 27 79 rfl rfl rfl) (Sub.cons (d := 80) (hp1429.nt 28 80 rfl rfl rfl) (Sub.cons (d := 81) (hp1429.nt 29 81 rfl rfl rfl) (Sub.cons (d := 82) (hp1429.nt 30 82 rfl rfl rfl) (Sub.cons (d := 83) (hp1429.nt 31 83 rfl rfl rfl) (Sub.cons (d := 84) (hp1429.nt 32 84 rfl rfl rfl) (Sub.cons (d := 85) (hp1429.nt 33 85 rfl rfl rfl) (Sub.cons (d := 86) (hp1429.nt 34 86 rfl rfl rfl) (Sub.cons (d := 87) (hp1429.nt 35 87 rfl rfl rfl) (Sub.nil _)))))))))))))))))))))))))))))))) ?_)
          refine CW.cond_t rfl rfl (CW.seq (CW.region (sd rfl (yl_assign rfl rfl (dn (CW.ret (br (tr ?_))))))))
          refine tr ?_
          have hB1465 : B_i_GoodTable_1 p_0 k91 () = .ret false := by simp only [B_i_GoodTable_1, hb16, hb21, hb23, hb159, hL90, cL]
          have hL1464 : loopM (B_i_GoodTable_1 p_0) (p_0.Idxs.length - 0) 0 () = .ret false := hI136.symm.trans (loopM.ret hlt147 hB1465)
          refine br (tr (rr rfl (.cons rfl .nil) ?_))
          have hM1466 : (i_GoodTable p_0) = (false) := by simp only [i_GoodTable, hb16, hb21, hb23, hb159, hL90, hL1464, cL]
          rw [hM1466]
          exact ⟨rfl, (Ex.trans (Below.only (Ex.trans hf145 hE154) hO157 (by omega)) hE1432)⟩
       ·refine CW.seq (CW.region (sd rfl (yl_lss rfl rfl rfl (dn (CW.seq (CW.cond_f rfl (lt_f hlt147) (CW.exit (tx ?_))))))))
        refine tx ?_
        have hL1470 : loopM (B_i_GoodTable_1 p_0) (p_0.Idxs.length - 0) 0 () = .done () := hI136.symm.trans (loopM.stop hlt147)
        refine bx (tn (CW.seq (CW.region (sd rfl (yl_assign rfl rfl (dn (CW.ret (rr rfl (.cons rfl .nil) ?_))))))))
        have hM1471 : (i_GoodTable p_0) = (true) := by simp only [i_GoodTable, hb16, hb21, hb23, hL90, hL1470, cL]
        rw [hM1471]
        exact ⟨rfl, hf145⟩
  ·refine sz rfl rfl (not_f hb21) (sz rfl rfl (not_f hb21) (sz rfl rfl (not_f hb21) (sz rfl rfl (not_f hb21) (sd rfl (yl_pick_t rfl rfl (not_f hb21) rfl (dn (CW.cond_t rfl rfl (CW.seq ?_))))))))
   refine CW.region (sd rfl (yl_assign rfl rfl (dn (CW.ret (tr (rr rfl (.cons rfl .nil) ?_))))))
   have hM1472 : (i_GoodTable p_0) = (false) := by simp only [i_GoodTable, hb16, hb21, cL]
   rw [hM1472]
   exact ⟨rfl, (Ex.trans (Ex.trans (Ex.trans (Ex.refl w) hE12) hE15) hE20)⟩
 ·refine sz rfl rfl (not_f hb16) (sz rfl rfl (not_f hb16) (sz rfl rfl (not_f hb16) (sz rfl rfl (not_f hb16) (sz rfl rfl (not_f hb16) (sd rfl (yl_pick_t rfl rfl (not_f hb16) rfl (sd rfl (yl_move rfl rfl (sz rfl rfl rfl (sz rfl rfl rfl ?_))))))))))
  refine sz rfl rfl rfl (sz rfl rfl rfl (sd rfl (yl_pick_t rfl rfl rfl rfl (dn (CW.cond_t rfl rfl (CW.seq (CW.region (sd rfl (yl_assign rfl rfl ?_)))))))))
  refine dn (CW.ret (tr (rr rfl (.cons rfl .nil) ?_)))
  have hM1476 : (i_GoodTable p_0) = (false) := by simp only [i_GoodTable, hb16, cL]
  rw [hM1476]
  exact ⟨rfl, (Ex.trans (Ex.trans (Ex.refl w) hE12) hE15)⟩
theorem c_g_slices_IndexFunc_Idx {A1 : Option Addr} {c1 : Nat} {g3 : Nat} {cp4 : List Value} {w : World} (p_s : List DIdx) (p_f : DIdx → Bool) (h1 : RdS w (Iv 0 w.heap.size) (RF e_Idx) 3 A1 p_s.length c1 p_s) (hen5 : Go.X.Enters Tryz.prog g3) (hfn6 : ∀ (w1 : World) (y0 : DIdx), Ex w w1 → y0 ∈ p_s → ok_Idx y0 → Cal Tryz.prog g3 (([.agg #[.string (bs (y0.Name)), .int .i64 (y0.Col), .int .i64 (y0.Stage)]] : List Value) ++ cp4).toArray w1 fun v w2 => v = .bool (p_f y0) ∧ Ex w1 w2) (o2 : (okL ok_Idx) p_s) : Cal Tryz.prog 147 #[.slice A1 p_s.length c1, .func (.func g3) #[] cp4.toArray] w fun v w' => v = .int .i64 ((g_slices_IndexFunc_Idx p_s p_f)) ∧ Ex w w' := by
 have hol7 := o2.1
 refine Cal.of func147 rfl ntmps147 rfl (CW.seq (CW.region (sd rfl (yl_assign rfl rfl (dn (CW.seq (CW.seq (CW.region ?_))))))))
 refine sd rfl (yl_move rfl rfl (sd rfl (yl_len un32 rfl rfl (sd rfl (yl_move rfl rfl (dn (CW.block (CW.loop (fun m9 L10 w11 => ∃ (k8 : Nat), m9 = p_s.length - k8 ∧ k8 ≤ p_s.length ∧ w.heap.size ≤ w11.heap.size ∧ lkp L10 0 = some (.slice A1 p_s.length c1) ∧ lkp L10 1 = some (.func (.func g3) #[] cp4.toArray) ∧ lkp L10 7 = some (.int .i64 ((p_s.length : Int))) ∧ lkp L10 8 = some (.int .i64 ((k8 : Int))) ∧ RdS w11 (Iv 0 w.heap.size) (RF e_Idx) 3 A1 p_s.length c1 p_s ∧ Ex w w11 ∧ loopM (B_g_slices_IndexFunc_Idx_0 p_s p_f) (p_s.length - k8) k8 () = loopM (B_g_slices_IndexFunc_Idx_0 p_s p_f) (p_s.length - 0) 0 ()) (p_s.length - 0) ?_ ?_))))))))
 ·exact ⟨0, rfl, (by omega), Nat.le_refl _, rfl, rfl, rfl, rfl, h1, (Ex.refl w), rfl⟩
 ·rintro m12 L13 w14 ⟨k8, rfl, hk15, hsz17, hl18, hl19, hl20, hl21, hf22, hf23, hI16⟩
  refine CW.sub (Sub.cons hl18 (Sub.cons hl19 (Sub.cons hl20 (Sub.cons hl21 (Sub.nil _))))) ?_
  have hf23z := Ex.size hf23
  have hbg24 := RdS.big hf22
  rcases Nat.lt_or_ge k8 p_s.length with hlt25 | hlt25
  ·refine CW.seq (CW.region (sd rfl (yl_lss rfl rfl rfl (dn (CW.seq (CW.cond_t rfl (lt_t hlt25) (CW.skip (tn ?_))))))))
   refine CW.seq (CW.block (CW.seq (CW.region (sd rfl (yl_move rfl rfl (sd rfl (yl_assign rfl rfl (dn (CW.seq ?_)))))))))
   refine CW.region (sd rfl (yl_move rfl rfl (sd rfl (yl_move rfl rfl (sd rfl (yl_move rfl rfl ?_))))))
   obtain ⟨eb26, eo26, _, eA26, _, ebl26, _, eR26, eC26⟩ := RdS.aD hf22 d_Idx (i := k8)
   obtain rfl := eR26
   have eC26 : Cells w14 eb26 (eo26 + k8 * 3) [.string (bs ((p_s.getD k8 d_Idx).Name)), .int .i64 ((p_s.getD k8 d_Idx).Col), .int .i64 ((p_s.getD k8 d_Idx).Stage)] := eC26
   refine sd rfl (yl_ixN un32 ty104 rfl rfl rfl eA26 (sd rfl (yl_loadN ty104 rfl rfl eC26 rfl (sd rfl (yl_callv hen5 rfl rfl (oc rfl oz) (Cal.mono (hfn6 w14 (p_s.getD k8 d_Idx) hf23 (getD_mem (by omega)) (okL.getD o2 ok_d_Idx _)) ?_))))))
   rintro v28 w27 ⟨rfl, hE29⟩
   have hE29z := Ex.size hE29
   refine dn (bcase (p_f (p_s.getD k8 d_Idx)) (fun hb30 => ?_) (fun hb30 => ?_))
   ·refine CW.cond_t rfl hb30 (CW.seq (CW.region (sd rfl (yl_move rfl rfl (sd rfl (yl_assign rfl rfl (dn (CW.ret (br ?_)))))))))
    refine tr (tr ?_)
    have hB32 : B_g_slices_IndexFunc_Idx_0 p_s p_f k8 () = .ret (k8 : Int) := by simp only [B_g_slices_IndexFunc_Idx_0, hb30, cL]
    have hL31 : loopM (B_g_slices_IndexFunc_Idx_0 p_s p_f) (p_s.length - 0) 0 () = .ret (k8 : Int) := hI16.symm.trans (loopM.ret hlt25 hB32)
    refine br (tr (rr rfl (.cons rfl .nil) ?_))
    have hM33 : (g_slices_IndexFunc_Idx p_s p_f) = ((k8 : Int)) := by simp only [g_slices_IndexFunc_Idx, hb30, hL31, cL]
    rw [hM33]
    exact ⟨rfl, (Ex.trans hf23 hE29)⟩
   ·refine CW.cond_f rfl hb30 (CW.skip (bn (tn (CW.region (sd rfl (yl_inc rfl rfl rfl (by omega) (sd rfl (yl_move rfl rfl (dn ?_)))))))))
    have hB35 : B_g_slices_IndexFunc_Idx_0 p_s p_f k8 () = .cont () := by simp only [B_g_slices_IndexFunc_Idx_0, hb30, cL]
    exact ⟨p_s.length - (k8 + 1), by omega, k8 + 1, rfl, hlt25, (by omega), rfl, rfl, rfl, rfl, (RdS.ex good_Idx hf22 hE29), (Ex.trans hf23 hE29), (loopM.cont hlt25 hB35).symm.trans hI16⟩
  ·refine CW.seq (CW.region (sd rfl (yl_lss rfl rfl rfl (dn (CW.seq (CW.cond_f rfl (lt_f hlt25) (CW.exit (tx ?_))))))))
   refine tx ?_
   have hL38 : loopM (B_g_slices_IndexFunc_Idx_0 p_s p_f) (p_s.length - 0) 0 () = .done () := hI16.symm.trans (loopM.stop hlt25)
   refine bx (tn (CW.seq (CW.region (sd rfl (yl_assign rfl rfl (dn (CW.ret (rr rfl (.cons rfl .nil) ?_))))))))
   have hM39 : (g_slices_IndexFunc_Idx p_s p_f) = (-1) := by simp only [g_slices_IndexFunc_Idx, hL38, cL]
   rw [hM39]
   exact ⟨rfl, hf23⟩
theorem c_i_Table_findIdx_c1 {b2 : Nat} {w : World} (p_x : DIdx) (p_cap0 : Str) (h3 : Box w b2 9 [.string (bs (p_cap0))]) (o1 : ok_Idx p_x) (o4 : okS p_cap0) : Cal Tryz.prog 148 #[.agg #[.string (bs (p_x.Name)), .int .i64 (p_x.Col), .int .i64 (p_x.Stage)], .pointer (some ⟨b2, 0, none⟩)] w fun v w' => v = .bool ((i_Table_findIdx_c1 p_x p_cap0)) ∧ Ex w w' := by
 refine Cal.of func148 rfl ntmps148 rfl (CW.seq (CW.region (sd rfl (yl_box rfl rfl rfl ?_))))
 intro b7 w8 hs9 hz10 hB11 hE12
 refine sd rfl (yl_assign rfl rfl (dn (CW.seq (CW.region (sd rfl (yl_fieldAddr fd104_0 rfl rfl (sd rfl (yl_load1 ty9 rfl rfl ((hB11.cell 0).trans rfl) (sd rfl (yl_load1 ty9 rfl rfl (((Box.ex h3 hE12).cell 0).trans rfl) (sd rfl (yl_seql (a := p_x.Name) (b := p_cap0) rfl rfl rfl ?_))))))))))))
 refine sd rfl (yl_assign rfl rfl (dn (CW.ret (rr rfl (.cons rfl .nil) ?_))))
 have hM14 : (i_Table_findIdx_c1 p_x p_cap0) = (p_x.Name == p_cap0) := by simp only [i_Table_findIdx_c1, cL]
 rw [hM14]
 exact ⟨rfl, (Ex.trans (Ex.refl w) hE12)⟩
theorem c_i_Table_findIdx {A1 : Option Addr} {c1 : Nat} {A2 : Option Addr} {c2 : Nat} {w : World} (p_t : DTable) (p_name : Str) (h1 : RdS w (Iv 0 w.heap.size) (RF e_Str) 1 A1 p_t.Cols.length c1 p_t.Cols) (h2 : RdS w (Iv 0 w.heap.size) (RF e_Idx) 3 A2 p_t.Idxs.length c2 p_t.Idxs) (o3 : ok_Table p_t) (o4 : okS p_name) : Cal Tryz.prog 125 #[.agg #[.string (bs (p_t.Name)), .slice A1 p_t.Cols.length c1, .slice A2 p_t.Idxs.length c2], .string (bs (p_name))] w fun v w' => v = .int .i64 ((i_Table_findIdx p_t p_name)) ∧ Ex w w' := by
 refine Cal.of func125 rfl ntmps125 rfl (CW.seq (CW.region (sd rfl (yl_box rfl rfl rfl ?_))))
 intro b9 w10 hs11 hz12 hB13 hE14
 refine sd rfl (yl_box rfl rfl rfl ?_)
 intro b15 w16 hs17 hz18 hB19 hE20
 refine sd rfl (yl_assign rfl rfl (dn (CW.seq (CW.region (sd rfl (yl_fieldAddr fd34_2 rfl rfl (sd rfl (yl_load1 ty32 rfl rfl (((Box.ex hB13 hE20).cell 2).trans rfl) (sd rfl (yl_makeFunc rfl (oc rfl oz) (sd rfl (yl_call en147 rfl (oc rfl (oc rfl oz)) (Cal.mono (c_g_slices_IndexFunc_Idx p_t.Idxs (fun y0 => i_Table_findIdx_c1 y0 p_name) (RdS.up (RdS.ex good_Idx (RdS.ex good_Idx h2 hE14) hE20) good_Idx) en148 (fun _ y0 => fun hE hm0 ov0 => c_i_Table_findIdx_c1 y0 p_name (Box.ex hB19 hE) ov0 o4) o3.2.2) ?_)))))))))))))
 rintro v25 w24 ⟨rfl, hE26⟩
 refine sd rfl (yl_assign rfl rfl (dn (CW.ret (rr rfl (.cons rfl .nil) ?_))))
 have hM27 : (i_Table_findIdx p_t p_name) = ((g_slices_IndexFunc_Idx p_t.Idxs (fun y0 => i_Table_findIdx_c1 y0 p_name))) := by simp only [i_Table_findIdx, cL]
 rw [hM27]
 exact ⟨rfl, (Ex.trans (Ex.trans (Ex.trans (Ex.refl w) hE14) hE20) hE26)⟩
theorem c_i_hasIdx {A1 : Option Addr} {c1 : Nat} {A2 : Option Addr} {c2 : Nat} {w : World} (p_t : DTable) (p_name : Str) (h1 : RdS w (Iv 0 w.heap.size) (RF e_Str) 1 A1 p_t.Cols.length c1 p_t.Cols) (h2 : RdS w (Iv 0 w.heap.size) (RF e_Idx) 3 A2 p_t.Idxs.length c2 p_t.Idxs) (o3 : ok_Table p_t) (o4 : okS p_name) : Cal Tryz.prog 112 #[.agg #[.string (bs (p_t.Name)), .slice A1 p_t.Cols.length c1, .slice A2 p_t.Idxs.length c2], .string (bs (p_name))] w fun v w' => v = .bool ((i_hasIdx p_t p_name)) ∧ Ex w w' := by
 refine Cal.of func112 rfl ntmps112 rfl (CW.seq (CW.region (sd rfl (yl_box rfl rfl rfl ?_))))
 intro b9 w10 hs11 hz12 hB13 hE14
 refine sd rfl (yl_assign rfl rfl (dn (CW.seq (CW.region (sd rfl (yl_loadN ty34 rfl rfl (hB13.cells (n := 3) rfl) rfl ?_))))))
 have q15 := RdS.ex good_Str h1 hE14
 have q16 := RdS.ex good_Idx h2 hE14
 refine sd rfl (yl_call en32 rfl (oc rfl oz) (Cal.mono (c_i_GoodTable p_t (RdS.up q15 good_Str) (RdS.up q16 good_Idx) o3) ?_))
 rintro v18 w17 ⟨rfl, hE19⟩
 refine sd rfl (yl_move rfl rfl (bcase (i_GoodTable p_t) (fun hb20 => ?_) (fun hb20 => ?_)))
 ·have hb20p := f_i_GoodTable hb20
  refine sy rfl rfl hb20 (yl_loadN ty34 rfl rfl ((Box.ex hB13 hE19).cells (n := 3) rfl) rfl (sy rfl rfl hb20 (yl_move rfl rfl (sy rfl rfl hb20 (yl_call en125 rfl (oc rfl (oc rfl oz)) (Cal.mono (c_i_Table_findIdx p_t p_name (RdS.up (RdS.ex good_Str q15 hE19) good_Str) (RdS.up (RdS.ex good_Idx q16 hE19) good_Idx) o3 o4) ?_))))))
  rintro v25 w24 ⟨rfl, hE26⟩
  have hrf27 := rf_i_findIdx p_t p_name
  refine sy rfl rfl hb20 (yl_geq rfl rfl rfl (sd rfl (yl_pick_t rfl rfl hb20 rfl (sd rfl (yl_assign rfl rfl (dn (CW.ret (rr rfl (.cons rfl .nil) ?_))))))))
  have hM28 : (i_hasIdx p_t p_name) = (decide (0 ≤ (i_Table_findIdx p_t p_name))) := by simp only [i_hasIdx, hb20, cL]
  rw [hM28]
  exact ⟨rfl, (Ex.trans (Ex.trans (Ex.trans (Ex.refl w) hE14) hE19) hE26)⟩
 ·refine sz rfl rfl hb20 (sz rfl rfl hb20 (sz rfl rfl hb20 (sz rfl rfl hb20 (sd rfl (yl_pick_f rfl rfl hb20 rfl (sd rfl (yl_assign rfl rfl (dn (CW.ret ?_)))))))))
  refine rr rfl (.cons rfl .nil) ?_
  have hM32 : (i_hasIdx p_t p_name) = (false) := by simp only [i_hasIdx, hb20, cL]
  rw [hM32]
  exact ⟨rfl, (Ex.trans (Ex.trans (Ex.refl w) hE14) hE19)⟩
theorem c_i_GoodShift_c1 {A1 : Option Addr} {c1 : Nat} {A2 : Option Addr} {c2 : Nat} {A4 : Option Addr} {c4 : Nat} {A5 : Option Addr} {c5 : Nat} {A6 : Option Addr} {c6 : Nat} {b7 : Nat} {w : World} (p_t : DTable) (p_cap0 : DShift) (h1 : RdS w (Iv 0 w.heap.size) (RF e_Str) 1 A1 p_t.Cols.length c1 p_t.Cols) (h2 : RdS w (Iv 0 w.heap.size) (RF e_Idx) 3 A2 p_t.Idxs.length c2 p_t.Idxs) (h4 : RdS w (Iv 0 w.heap.size) R_Table 3 A4 p_cap0.Ways.length c4 p_cap0.Ways) (h5 : RdS w (Iv 0 w.heap.size) (RF e_Int) 1 A5 p_cap0.At.length c5 p_cap0.At) (h6 : RdS w (Iv 0 w.heap.size) (RF e_Write) 3 A6 p_cap0.Store.length c6 p_cap0.Store) (h8 : Box w b7 58 [.string (bs (p_cap0.Name)), .slice A4 p_cap0.Ways.length c4, .slice A5 p_cap0.At.length c5, .slice A6 p_cap0.Store.length c6]) (o3 : ok_Table p_t) (o9 : ok_Shift p_cap0) : Cal Tryz.prog 111 #[.agg #[.string (bs (p_t.Name)), .slice A1 p_t.Cols.length c1, .slice A2 p_t.Idxs.length c2], .pointer (some ⟨b7, 0, none⟩)] w fun v w' => v = .bool ((i_GoodShift_c1 p_t p_cap0)) ∧ Ex w w' := by
 refine Cal.of func111 rfl ntmps111 rfl (CW.seq (CW.region (sd rfl (yl_box rfl rfl rfl ?_))))
 intro b17 w18 hs19 hz20 hB21 hE22
 refine sd rfl (yl_assign rfl rfl (dn (CW.seq (CW.region (sd rfl (yl_loadN ty34 rfl rfl (hB21.cells (n := 3) rfl) rfl (sd rfl (yl_fieldAddr fd58_0 rfl rfl (sd rfl (yl_load1 ty9 rfl rfl (((Box.ex h8 hE22).cell 0).trans rfl) (sd rfl (yl_call en112 rfl (oc rfl (oc rfl oz)) (Cal.mono (c_i_hasIdx p_t p_cap0.Name (RdS.up (RdS.ex good_Str h1 hE22) good_Str) (RdS.up (RdS.ex good_Idx h2 hE22) good_Idx) o3 o9.1) ?_)))))))))))))
 rintro v27 w26 ⟨rfl, hE28⟩
 refine sd rfl (yl_not rfl rfl (sd rfl (yl_assign rfl rfl (dn (CW.ret (rr rfl (.cons rfl .nil) ?_))))))
 have hM29 : (i_GoodShift_c1 p_t p_cap0) = (!(i_hasIdx p_t p_cap0.Name)) := by simp only [i_GoodShift_c1, cL]
 rw [hM29]
 exact ⟨rfl, (Ex.trans (Ex.trans (Ex.refl w) hE22) hE28)⟩
theorem c_g_slices_IndexFunc_int {A1 : Option Addr} {c1 : Nat} {g3 : Nat} {cp4 : List Value} {w : World} (p_s : List Int) (p_f : Int → Bool) (h1 : RdS w (Iv 0 w.heap.size) (RF e_Int) 1 A1 p_s.length c1 p_s) (hen5 : Go.X.Enters Tryz.prog g3) (hfn6 : ∀ (w1 : World) (y0 : Int), Ex w w1 → y0 ∈ p_s → Cal Tryz.prog g3 (([.int .i64 (y0)] : List Value) ++ cp4).toArray w1 fun v w2 => v = .bool (p_f y0) ∧ Ex w1 w2) (o2 : (okL okT) p_s) : Cal Tryz.prog 138 #[.slice A1 p_s.length c1, .func (.func g3) #[] cp4.toArray] w fun v w' => v = .int .i64 ((g_slices_IndexFunc_int p_s p_f)) ∧ Ex w w' := by
 have hol7 := o2.1
 refine Cal.of func138 rfl ntmps138 rfl (CW.seq (CW.region (sd rfl (yl_assign rfl rfl (dn (CW.seq (CW.seq (CW.region ?_))))))))
 refine sd rfl (yl_move rfl rfl (sd rfl (yl_len un46 rfl rfl (sd rfl (yl_move rfl rfl (dn (CW.block (CW.loop (fun m9 L10 w11 => ∃ (k8 : Nat), m9 = p_s.length - k8 ∧ k8 ≤ p_s.length ∧ w.heap.size ≤ w11.heap.size ∧ lkp L10 0 = some (.slice A1 p_s.length c1) ∧ lkp L10 1 = some (.func (.func g3) #[] cp4.toArray) ∧ lkp L10 7 = some (.int .i64 ((p_s.length : Int))) ∧ lkp L10 8 = some (.int .i64 ((k8 : Int))) ∧ RdS w11 (Iv 0 w.heap.size) (RF e_Int) 1 A1 p_s.length c1 p_s ∧ Ex w w11 ∧ loopM (B_g_slices_IndexFunc_int_0 p_s p_f) (p_s.length - k8) k8 () = loopM (B_g_slices_IndexFunc_int_0 p_s p_f) (p_s.length - 0) 0 ()) (p_s.length - 0) ?_ ?_))))))))
 ·exact ⟨0, rfl, (by omega), Nat.le_refl _, rfl, rfl, rfl, rfl, h1, (Ex.refl w), rfl⟩
 ·rintro m12 L13 w14 ⟨k8, rfl, hk15, hsz17, hl18, hl19, hl20, hl21, hf22, hf23, hI16⟩
  refine CW.sub (Sub.cons hl18 (Sub.cons hl19 (Sub.cons hl20 (Sub.cons hl21 (Sub.nil _))))) ?_
  have hf23z := Ex.size hf23
  have hbg24 := RdS.big hf22
  rcases Nat.lt_or_ge k8 p_s.length with hlt25 | hlt25
  ·refine CW.seq (CW.region (sd rfl (yl_lss rfl rfl rfl (dn (CW.seq (CW.cond_t rfl (lt_t hlt25) (CW.skip (tn ?_))))))))
   refine CW.seq (CW.block (CW.seq (CW.region (sd rfl (yl_move rfl rfl (sd rfl (yl_assign rfl rfl (dn (CW.seq ?_)))))))))
   refine CW.region (sd rfl (yl_move rfl rfl (sd rfl (yl_move rfl rfl (sd rfl (yl_move rfl rfl ?_))))))
   obtain ⟨eb26, eo26, _, eA26, _, ebl26, _, eR26, eC26⟩ := RdS.aD hf22 d_Int (i := k8)
   obtain rfl := eR26
   have eC26 : Cells w14 eb26 (eo26 + k8 * 1) [.int .i64 ((p_s.getD k8 d_Int))] := eC26
   refine sd rfl (yl_ixN un46 ty3 rfl rfl rfl eA26 (sd rfl (yl_load1 ty3 rfl rfl (eC26 0 _ rfl) (sd rfl (yl_callv hen5 rfl rfl (oc rfl oz) (Cal.mono (hfn6 w14 (p_s.getD k8 d_Int) hf23 (getD_mem (by omega))) ?_))))))
   rintro v28 w27 ⟨rfl, hE29⟩
   have hE29z := Ex.size hE29
   refine dn (bcase (p_f (p_s.getD k8 d_Int)) (fun hb30 => ?_) (fun hb30 => ?_))
   ·refine CW.cond_t rfl hb30 (CW.seq (CW.region (sd rfl (yl_move rfl rfl (sd rfl (yl_assign rfl rfl (dn (CW.ret (br ?_)))))))))
    refine tr (tr ?_)
    have hB32 : B_g_slices_IndexFunc_int_0 p_s p_f k8 () = .ret (k8 : Int) := by simp only [B_g_slices_IndexFunc_int_0, hb30, cL]
    have hL31 : loopM (B_g_slices_IndexFunc_int_0 p_s p_f) (p_s.length - 0) 0 () = .ret (k8 : Int) := hI16.symm.trans (loopM.ret hlt25 hB32)
    refine br (tr (rr rfl (.cons rfl .nil) ?_))
    have hM33 : (g_slices_IndexFunc_int p_s p_f) = ((k8 : Int)) := by simp only [g_slices_IndexFunc_int, hb30, hL31, cL]
    rw [hM33]
    exact ⟨rfl, (Ex.trans hf23 hE29)⟩
   ·refine CW.cond_f rfl hb30 (CW.skip (bn (tn (CW.region (sd rfl (yl_inc rfl rfl rfl (by omega) (sd rfl (yl_move rfl rfl (dn ?_)))))))))
    have hB35 : B_g_slices_IndexFunc_int_0 p_s p_f k8 () = .cont () := by simp only [B_g_slices_IndexFunc_int_0, hb30, cL]
    exact ⟨p_s.length - (k8 + 1), by omega, k8 + 1, rfl, hlt25, (by omega), rfl, rfl, rfl, rfl, (RdS.ex good_Int hf22 hE29), (Ex.trans hf23 hE29), (loopM.cont hlt25 hB35).symm.trans hI16⟩
  ·refine CW.seq (CW.region (sd rfl (yl_lss rfl rfl rfl (dn (CW.seq (CW.cond_f rfl (lt_f hlt25) (CW.exit (tx ?_))))))))
   refine tx ?_
   have hL38 : loopM (B_g_slices_IndexFunc_int_0 p_s p_f) (p_s.length - 0) 0 () = .done () := hI16.symm.trans (loopM.stop hlt25)
   refine bx (tn (CW.seq (CW.region (sd rfl (yl_assign rfl rfl (dn (CW.ret (rr rfl (.cons rfl .nil) ?_))))))))
   have hM39 : (g_slices_IndexFunc_int p_s p_f) = (-1) := by simp only [g_slices_IndexFunc_int, hL38, cL]
   rw [hM39]
   exact ⟨rfl, hf23⟩
theorem c_g_slices_ContainsFunc_int {A1 : Option Addr} {c1 : Nat} {g3 : Nat} {cp4 : List Value} {w : World} (p_s : List Int) (p_f : Int → Bool) (h1 : RdS w (Iv 0 w.heap.size) (RF e_Int) 1 A1 p_s.length c1 p_s) (hen5 : Go.X.Enters Tryz.prog g3) (hfn6 : ∀ (w1 : World) (y0 : Int), Ex w w1 → y0 ∈ p_s → Cal Tryz.prog g3 (([.int .i64 (y0)] : List Value) ++ cp4).toArray w1 fun v w2 => v = .bool (p_f y0) ∧ Ex w1 w2) (o2 : (okL okT) p_s) : Cal Tryz.prog 113 #[.slice A1 p_s.length c1, .func (.func g3) #[] cp4.toArray] w fun v w' => v = .bool ((g_slices_ContainsFunc_int p_s p_f)) ∧ Ex w w' := by
 refine Cal.of func113 rfl ntmps113 rfl (CW.seq (CW.region (sd rfl (yl_assign rfl rfl (dn (CW.seq (CW.region (sd rfl (yl_move rfl rfl ?_)))))))))
 refine sd rfl (yl_move rfl rfl (sd rfl (yl_call en138 rfl (oc rfl (oc rfl oz)) (Cal.mono (c_g_slices_IndexFunc_int p_s p_f (RdS.up h1 good_Int) hen5 (fun w1 y0 => fun hE => hfn6 w1 y0 (Ex.trans (Ex.refl w) hE)) o2) ?_))))
 rintro v9 w8 ⟨rfl, hE10⟩
 refine sd rfl (yl_geq rfl rfl rfl (sd rfl (yl_assign rfl rfl (dn (CW.ret (rr rfl (.cons rfl .nil) ?_))))))
 have hM11 : (g_slices_ContainsFunc_int p_s p_f) = (decide (0 ≤ (g_slices_IndexFunc_int p_s p_f))) := by simp only [g_slices_ContainsFunc_int, cL]
 rw [hM11]
 exact ⟨rfl, (Ex.trans (Ex.refl w) hE10)⟩
theorem c_i_GoodShift_c2 {A1 : Option Addr} {c1 : Nat} {A2 : Option Addr} {c2 : Nat} {A3 : Option Addr} {c3 : Nat} {b4 : Nat} {w : World} (p_n : Int) (p_cap0 : DShift) (h1 : RdS w (Iv 0 w.heap.size) R_Table 3 A1 p_cap0.Ways.length c1 p_cap0.Ways) (h2 : RdS w (Iv 0 w.heap.size) (RF e_Int) 1 A2 p_cap0.At.length c2 p_cap0.At) (h3 : RdS w (Iv 0 w.heap.size) (RF e_Write) 3 A3 p_cap0.Store.length c3 p_cap0.Store) (h5 : Box w b4 58 [.string (bs (p_cap0.Name)), .slice A1 p_cap0.Ways.length c1, .slice A2 p_cap0.At.length c2, .slice A3 p_cap0.Store.length c3]) (o6 : ok_Shift p_cap0) : Cal Tryz.prog 114 #[.int .i64 (p_n), .pointer (some ⟨b4, 0, none⟩)] w fun v w' => v = .bool ((i_GoodShift_c2 p_n p_cap0)) ∧ Ex w w' := by
 refine Cal.of func114 rfl ntmps114 rfl (CW.seq (CW.region (sd rfl (yl_assign rfl rfl (dn (CW.seq (CW.region (sd rfl (yl_move rfl rfl ?_)))))))))
 refine sd rfl (yl_fieldAddr fd58_1 rfl rfl (sd rfl (yl_load1 ty56 rfl rfl ((h5.cell 1).trans rfl) (sd rfl (yl_len un56 rfl rfl (sd rfl (yl_sub rfl rfl rfl (sd rfl (yl_call en66 rfl (oc rfl (oc rfl (oc rfl oz))) (Cal.mono (c_i_within p_n 0 (IntKind.wrap .i64 ((p_cap0.Ways.length : Int) - 1))) ?_))))))))))
 rintro v12 w11 ⟨rfl, hE13⟩
 refine sd rfl (yl_not rfl rfl (sd rfl (yl_assign rfl rfl (dn (CW.ret (rr rfl (.cons rfl .nil) ?_))))))
 have hM14 : (i_GoodShift_c2 p_n p_cap0) = (!(i_within p_n 0 (IntKind.wrap .i64 ((p_cap0.Ways.length : Int) - 1)))) := by simp only [i_GoodShift_c2, cL]
 rw [hM14]
 exact ⟨rfl, (Ex.trans (Ex.refl w) hE13)⟩
theorem c_g_slices_EqualFunc_Table {A1 : Option Addr} {c1 : Nat} {A3 : Option Addr} {c3 : Nat} {g5 : Nat} {cp6 : List Value} {w : World} (p_s1 : List DTable) (p_s2 : List DTable) (p_eq : DTable → DTable → Bool) (h1 : RdS w (Iv 0 w.heap.size) R_Table 3 A1 p_s1.length c1 p_s1) (h3 : RdS w (Iv 0 w.heap.size) R_Table 3 A3 p_s2.length c3 p_s2) (hen7 : Go.X.Enters Tryz.prog g5) (hfn8 : ∀ (w1 : World) (y0 : DTable) {A9 : Option Addr} {c9 : Nat} {A10 : Option Addr} {c10 : Nat} (y1 : DTable) {A11 : Option Addr} {c11 : Nat} {A12 : Option Addr} {c12 : Nat}, Ex w w1 → y0 ∈ p_s1 → y1 ∈ p_s2 → RdS w1 (Iv 0 w1.heap.size) (RF e_Str) 1 A9 y0.Cols.length c9 y0.Cols → RdS w1 (Iv 0 w1.heap.size) (RF e_Idx) 3 A10 y0.Idxs.length c10 y0.Idxs → RdS w1 (Iv 0 w1.heap.size) (RF e_Str) 1 A11 y1.Cols.length c11 y1.Cols → RdS w1 (Iv 0 w1.heap.size) (RF e_Idx) 3 A12 y1.Idxs.length c12 y1.Idxs → ok_Table y0 → ok_Table y1 → Cal Tryz.prog g5 (([.agg #[.string (bs (y0.Name)), .slice A9 y0.Cols.length c9, .slice A10 y0.Idxs.length c10], .agg #[.string (bs (y1.Name)), .slice A11 y1.Cols.length c11, .slice A12 y1.Idxs.length c12]] : List Value) ++ cp6).toArray w1 fun v w2 => v = .bool (p_eq y0 y1) ∧ Ex w1 w2) (o2 : (okL ok_Table) p_s1) (o4 : (okL ok_Table) p_s2) : Cal Tryz.prog 115 #[.slice A1 p_s1.length c1, .slice A3 p_s2.length c3, .func (.func g5) #[] cp6.toArray] w fun v w' => v = .bool ((g_slices_EqualFunc_Table p_s1 p_s2 p_eq)) ∧ Ex w w' := by
 have hol13 := o2.1
 have hol14 := o4.1
 refine Cal.of func115 rfl ntmps115 rfl (CW.seq (CW.region (sd rfl (yl_assign rfl rfl (dn (CW.seq (CW.seq (CW.region ?_))))))))
 refine sd rfl (yl_move rfl rfl (sd rfl (yl_len un56 rfl rfl (sd rfl (yl_move rfl rfl (sd rfl (yl_len un56 rfl rfl (sd rfl (yl_neq rfl rfl rfl (dn (bcase (decide ((p_s1.length : Int) = (p_s2.length : Int))) (fun hb15 => ?_) (fun hb15 => ?_))))))))))))
 ·have hb15p := dec_t hb15
  refine CW.cond_f rfl (not_t hb15) (CW.skip (tn (CW.seq (CW.seq (CW.region (sd rfl (yl_move rfl rfl (sd rfl (yl_len un56 rfl rfl (sd rfl (yl_move rfl rfl ?_)))))))))))
  refine dn (CW.block (CW.loop (fun m45 L46 w47 => ∃ (k16 : Nat), m45 = p_s1.length - k16 ∧ k16 ≤ p_s1.length ∧ w.heap.size ≤ w47.heap.size ∧ lkp L46 1 = some (.slice A3 p_s2.length c3) ∧ lkp L46 2 = some (.func (.func g5) #[] cp6.toArray) ∧ lkp L46 15 = some (.slice A1 p_s1.length c1) ∧ lkp L46 16 = some (.int .i64 ((p_s1.length : Int))) ∧ lkp L46 17 = some (.int .i64 ((k16 : Int))) ∧ RdS w47 (Iv 0 w.heap.size) R_Table 3 A3 p_s2.length c3 p_s2 ∧ RdS w47 (Iv 0 w.heap.size) R_Table 3 A1 p_s1.length c1 p_s1 ∧ Ex w w47 ∧ loopM (B_g_slices_EqualFunc_Table_0 p_s1 p_s2 p_eq) (p_s1.length - k16) k16 () = loopM (B_g_slices_EqualFunc_Table_0 p_s1 p_s2 p_eq) (p_s1.length - 0) 0 ()) (p_s1.length - 0) ?_ ?_))
  ·exact ⟨0, rfl, (by omega), Nat.le_refl _, rfl, rfl, rfl, rfl, rfl, h3, h1, (Ex.refl w), rfl⟩
  ·rintro m48 L49 w50 ⟨k16, rfl, hk51, hsz53, hl54, hl55, hl56, hl57, hl58, hf59, hf60, hf61, hI52⟩
   refine CW.sub (Sub.cons hl54 (Sub.cons hl55 (Sub.cons hl56 (Sub.cons hl57 (Sub.cons hl58 (Sub.nil _)))))) ?_
   have hf61z := Ex.size hf61
   have hbg62 := RdS.big hf60
   rcases Nat.lt_or_ge k16 p_s1.length with hlt63 | hlt63
   ·refine CW.seq (CW.region (sd rfl (yl_lss rfl rfl rfl (dn (CW.seq (CW.cond_t rfl (lt_t hlt63) (CW.skip (tn ?_))))))))
    refine CW.seq (CW.block (CW.seq (CW.region (sd rfl (yl_move rfl rfl ?_)))))
    obtain ⟨_, _, _, eA64, _, ebl64, _, eR64, eC64⟩ := RdS.aD hf60 d_Table (i := k16)
    obtain ⟨A65, c65, A66, c66, rfl, h65, h66⟩ := eR64
    refine sd rfl (yl_ixN un56 ty34 rfl rfl rfl eA64 (sd rfl (yl_loadN ty34 rfl rfl eC64 rfl (sd rfl (yl_alloc ty34 (cs := [.string (bs (([] : Str))), .slice none 0 0, .slice none 0 0]) rfl rfl ?_)))))
    intro b67 w68 hs69 hz70 hB71 hE72
    refine sd rfl (yl_assign rfl rfl (SeqR.u rfl rfl (yl_store (vs := [.string (bs ((p_s1.getD k16 d_Table).Name)), .slice A65 (((p_s1.getD k16 d_Table).Cols).length) c65, .slice A66 (((p_s1.getD k16 d_Table).Idxs).length) c66]) ty34 rfl rfl rfl rfl rfl rfl hB71 (Nat.le_of_ble_eq_true rfl) ?_)))
    intro w73 hB74 hO75
    have hB74 : Box w73 b67 34 [.string (bs ((p_s1.getD k16 d_Table).Name)), .slice A65 (((p_s1.getD k16 d_Table).Cols).length) c65, .slice A66 (((p_s1.getD k16 d_Table).Idxs).length) c66] := hB74
    have hO75z := hO75.size
    refine dn (CW.seq (CW.region (sd rfl (yl_move rfl rfl (sd rfl (yl_move rfl rfl ?_))))))
    have q77 := RdS.only good_Table (RdS.ex good_Table hf59 hE72) hO75 (by simp only [Iv]; omega)
    obtain ⟨_, _, _, eA78, _, ebl78, _, eR78, eC78⟩ := RdS.aD q77 d_Table (i := k16)
    obtain ⟨A79, c79, A80, c80, rfl, h79, h80⟩ := eR78
    refine sd rfl (yl_ixN un56 ty34 rfl rfl rfl eA78 (sd rfl (yl_loadN ty34 rfl rfl eC78 rfl (sd rfl (yl_alloc ty34 (cs := [.string (bs (([] : Str))), .slice none 0 0, .slice none 0 0]) rfl rfl ?_)))))
    intro b81 w82 hs83 hz84 hB85 hE86
    refine SeqR.u rfl rfl (yl_store (vs := [.string (bs ((p_s2.getD k16 d_Table).Name)), .slice A79 (((p_s2.getD k16 d_Table).Cols).length) c79, .slice A80 (((p_s2.getD k16 d_Table).Idxs).length) c80]) ty34 rfl rfl rfl rfl rfl rfl hB85 (Nat.le_of_ble_eq_true rfl) ?_)
    intro w87 hB88 hO89
    have hB88 : Box w87 b81 34 [.string (bs ((p_s2.getD k16 d_Table).Name)), .slice A79 (((p_s2.getD k16 d_Table).Cols).length) c79, .slice A80 (((p_s2.getD k16 d_Table).Idxs).length) c80] := hB88
    have hO89z := hO89.size
    refine dn (CW.seq (CW.region (sd rfl (yl_move rfl rfl (sd rfl (yl_loadN ty34 rfl rfl ((Box.only (Box.ex hB74 hE86) hO89 (by omega)).cells (n := 3) rfl) rfl (sd rfl (yl_loadN ty34 rfl rfl (hB88.cells (n := 3) rfl) rfl ?_))))))))
    have q110 := Below.only (Ex.trans (Below.only (Ex.trans hf61 hE72) hO75 (by omega)) hE86) hO89 (by omega)
    refine sd rfl (yl_callv hen7 rfl rfl (oc rfl (oc rfl oz)) (Cal.mono (hfn8 w87 (p_s1.getD k16 d_Table) (p_s2.getD k16 d_Table) q110 (getD_mem (by omega)) (getD_mem (by omega)) (RdS.up (RdS.only good_Str (RdS.ex good_Str (RdS.only good_Str (RdS.ex good_Str h65 hE72) hO75 (by simp only [Iv]; omega)) hE86) hO89 (by simp only [Iv]; omega)) good_Str) (RdS.up (RdS.only good_Idx (RdS.ex good_Idx (RdS.only good_Idx (RdS.ex good_Idx h66 hE72) hO75 (by simp only [Iv]; omega)) hE86) hO89 (by simp only [Iv]; omega)) good_Idx) (RdS.up (RdS.only good_Str (RdS.ex good_Str h79 hE86) hO89 (by simp only [Iv]; omega)) good_Str) (RdS.up (RdS.only good_Idx (RdS.ex good_Idx h80 hE86) hO89 (by simp only [Iv]; omega)) good_Idx) (okL.getD o2 ok_d_Table _) (okL.getD o4 ok_d_Table _)) ?_))
    rintro v105 w104 ⟨rfl, hE106⟩
    have hE106z := Ex.size hE106
    refine sd rfl (yl_not rfl rfl (dn (bcase (p_eq (p_s1.getD k16 d_Table) (p_s2.getD k16 d_Table)) (fun hb111 => ?_) (fun hb111 => ?_))))
    ·refine CW.cond_f rfl (not_t hb111) (CW.skip (bn (tn (CW.region (sd rfl (yl_inc rfl rfl rfl (by omega) (sd rfl (yl_move rfl rfl (dn ?_)))))))))
     have hB112 : B_g_slices_EqualFunc_Table_0 p_s1 p_s2 p_eq k16 () = .cont () := by simp only [B_g_slices_EqualFunc_Table_0, hb15, hb111, cL]
     exact ⟨p_s1.length - (k16 + 1), by omega, k16 + 1, rfl, hlt63, (by omega), rfl, rfl, rfl, rfl, rfl, (RdS.ex good_Table (RdS.only good_Table (RdS.ex good_Table q77 hE86) hO89 (by simp only [Iv]; omega)) hE106), (RdS.ex good_Table (RdS.only good_Table (RdS.ex good_Table (RdS.only good_Table (RdS.ex good_Table hf60 hE72) hO75 (by simp only [Iv]; omega)) hE86) hO89 (by simp only [Iv]; omega)) hE106), (Ex.trans q110 hE106), (loopM.cont hlt63 hB112).symm.trans hI52⟩
    ·refine CW.cond_t rfl (not_f hb111) (CW.seq (CW.region (sd rfl (yl_assign rfl rfl (dn (CW.ret (br (tr ?_))))))))
     refine tr ?_
     have hB123 : B_g_slices_EqualFunc_Table_0 p_s1 p_s2 p_eq k16 () = .ret false := by simp only [B_g_slices_EqualFunc_Table_0, hb15, hb111, cL]
     have hL122 : loopM (B_g_slices_EqualFunc_Table_0 p_s1 p_s2 p_eq) (p_s1.length - 0) 0 () = .ret false := hI52.symm.trans (loopM.ret hlt63 hB123)
     refine br (tr (rr rfl (.cons rfl .nil) ?_))
     have hM124 : (g_slices_EqualFunc_Table p_s1 p_s2 p_eq) = (false) := by simp only [g_slices_EqualFunc_Table, hb15, hb111, hL122, cL]
     rw [hM124]
     exact ⟨rfl, (Ex.trans q110 hE106)⟩
   ·refine CW.seq (CW.region (sd rfl (yl_lss rfl rfl rfl (dn (CW.seq (CW.cond_f rfl (lt_f hlt63) (CW.exit (tx ?_))))))))
    refine tx ?_
    have hL126 : loopM (B_g_slices_EqualFunc_Table_0 p_s1 p_s2 p_eq) (p_s1.length - 0) 0 () = .done () := hI52.symm.trans (loopM.stop hlt63)
    refine bx (tn (CW.seq (CW.region (sd rfl (yl_assign rfl rfl (dn (CW.ret (rr rfl (.cons rfl .nil) ?_))))))))
    have hM127 : (g_slices_EqualFunc_Table p_s1 p_s2 p_eq) = (true) := by simp only [g_slices_EqualFunc_Table, hb15, hL126, cL]
    rw [hM127]
    exact ⟨rfl, hf61⟩
 ·have hb15p := dec_f hb15
  refine CW.cond_t rfl (not_f hb15) (CW.seq (CW.region (sd rfl (yl_assign rfl rfl (dn (CW.ret (tr (rr rfl (.cons rfl .nil) ?_))))))))
  have hM128 : (g_slices_EqualFunc_Table p_s1 p_s2 p_eq) = (false) := by simp only [g_slices_EqualFunc_Table, hb15, cL]
  rw [hM128]
  exact ⟨rfl, (Ex.refl w)⟩
theorem c_i_Table_idx {A1 : Option Addr} {c1 : Nat} {A2 : Option Addr} {c2 : Nat} {w : World} (p_t : DTable) (p_name : Str) (h1 : RdS w (Iv 0 w.heap.size) (RF e_Str) 1 A1 p_t.Cols.length c1 p_t.Cols) (h2 : RdS w (Iv 0 w.heap.size) (RF e_Idx) 3 A2 p_t.Idxs.length c2 p_t.Idxs) (o3 : ok_Table p_t) (o4 : okS p_name) (pre0 : (0 ≤ i_Table_findIdx p_t p_name ∧ i_Table_findIdx p_t p_name < (p_t.Idxs.length : Int))) : Cal Tryz.prog 91 #[.agg #[.string (bs (p_t.Name)), .slice A1 p_t.Cols.length c1, .slice A2 p_t.Idxs.length c2], .string (bs (p_name))] w fun v w' => v = .agg #[.string (bs ((i_Table_idx p_t p_name).Name)), .int .i64 ((i_Table_idx p_t p_name).Col), .int .i64 ((i_Table_idx p_t p_name).Stage)] ∧ ok_Idx (i_Table_idx p_t p_name) ∧ Ex w w' := by
 have hol5 : p_t.Name.length ≤ 1073741824 := o3.1
 have hol6 := o3.2.1.1
 have hol7 := o3.2.2.1
 have hol8 : p_name.length ≤ 1073741824 := o4
 refine Cal.of func91 rfl ntmps91 rfl (CW.seq (CW.region (sd rfl (yl_box rfl rfl rfl ?_))))
 intro b9 w10 hs11 hz12 hB13 hE14
 refine sd rfl (yl_alloc ty104 (cs := [.string (bs (([] : Str))), .int .i64 (0), .int .i64 (0)]) rfl rfl ?_)
 intro b15 w16 hs17 hz18 hB19 hE20
 refine dn (CW.seq ?_)
 have q21 := Box.ex hB13 hE20
 have q25 := RdS.ex good_Idx (RdS.ex good_Idx h2 hE14) hE20
 have hrf27 := rf_i_findIdx p_t p_name
 refine CW.drawsI 5 (vgetI ([.pointer (some ⟨b9, 0 + 2, none⟩), .slice A2 p_t.Idxs.length c2, .agg #[.string (bs (p_t.Name)), .slice A1 p_t.Cols.length c1, .slice A2 p_t.Idxs.length c2], .string (bs (p_name)), .int .i64 ((i_Table_findIdx p_t p_name))].map DetI)) Tryz.follows rfl rfl rfl rfl rfl rfl (vgetI_stable (stD _)) ⟨?_, ?_, ?_, ?_, ?_, trivial⟩ ?_
 ·exact oI rfl fun h => yl_fieldAddr fd34_2 rfl (h.old 2 _ rfl rfl) kI
 ·exact oI rfl fun h => yl_load1 ty32 rfl (h.dt 0 5 rfl rfl rfl) (((Box.ex q21 h.ex).cell 2).trans rfl) kI
 ·exact oI rfl fun h => yl_loadN ty34 rfl (h.old 2 _ rfl rfl) ((Box.ex q21 h.ex).cells (n := 3) rfl) rfl kI
 ·exact oI rfl fun h => yl_move rfl (h.old 1 _ rfl rfl) kI
 ·intro L50 w51 hi52
  have hE53 := hi52.ex
  exact OpR.op' rfl (yl_call en125 rfl (oc (hi52.dt 2 7 rfl rfl rfl) (oc (hi52.dt 3 8 rfl rfl rfl) oz)) (Cal.mono (c_i_Table_findIdx p_t p_name (RdS.up (RdS.ex good_Str (RdS.ex good_Str (RdS.ex good_Str h1 hE14) hE20) hE53) good_Str) (RdS.up (RdS.ex good_Idx q25 hE53) good_Idx) o3 o4) fun _ _ h => h))
 ·intro fl64 fh65 L61 w62 hp63
  have hE66 := hp63.ex
  have hE66z := Ex.size hE66
  have hx67 := hp63.old 4 _ rfl rfl
  obtain ⟨eb71, eo71, _, eA71, _, ebl71, _, eR71, eC71⟩ := RdS.atD (RdS.ex good_Idx q25 hE66) d_Idx (i := ((i_Table_findIdx p_t p_name)).toNat) (by first | omega | assumption | (simp only [wI] at *; omega))
  obtain rfl := eR71
  have eC71 : Cells w62 eb71 (eo71 + (((i_Table_findIdx p_t p_name)).toNat) * 3) [.string (bs ((p_t.Idxs.getD (((i_Table_findIdx p_t p_name)).toNat) d_Idx).Name)), .int .i64 ((p_t.Idxs.getD (((i_Table_findIdx p_t p_name)).toNat) d_Idx).Col), .int .i64 ((p_t.Idxs.getD (((i_Table_findIdx p_t p_name)).toNat) d_Idx).Stage)] := eC71
  refine sd rfl (yl_indexAddr un32 ty104 rfl (hp63.nt 1 6 rfl rfl rfl) (hp63.nt 4 9 rfl rfl rfl) eA71 (by first | omega | assumption | (simp only [wI] at *; omega)) (by first | omega | assumption | (simp only [wI] at *; omega)) (sd rfl (yl_loadN ty104 rfl rfl eC71 rfl (SeqR.u rfl rfl (yl_store (vs := [.string (bs ((p_t.Idxs.getD (((i_Table_findIdx p_t p_name)).toNat) d_Idx).Name)), .int .i64 ((p_t.Idxs.getD (((i_Table_findIdx p_t p_name)).toNat) d_Idx).Col), .int .i64 ((p_t.Idxs.getD (((i_Table_findIdx p_t p_name)).toNat) d_Idx).Stage)]) ty104 rfl hx67 rfl rfl rfl rfl (Box.ex hB19 hE66) (Nat.le_of_ble_eq_true rfl) ?_)))))
  intro w73 hB74 hO75
  have hB74 : Box w73 b15 104 [.string (bs ((p_t.Idxs.getD (((i_Table_findIdx p_t p_name)).toNat) d_Idx).Name)), .int .i64 ((p_t.Idxs.getD (((i_Table_findIdx p_t p_name)).toNat) d_Idx).Col), .int .i64 ((p_t.Idxs.getD (((i_Table_findIdx p_t p_name)).toNat) d_Idx).Stage)] := hB74
  have hO75z := hO75.size
  refine dn (CW.sub (Sub.cons (d := 4) hx67 (Sub.nil _)) (CW.ret (rr rfl (.cons ⟨_, rfl, run_loadN ty104 (cs := [.string (bs ((p_t.Idxs.getD (((i_Table_findIdx p_t p_name)).toNat) d_Idx).Name)), .int .i64 ((p_t.Idxs.getD (((i_Table_findIdx p_t p_name)).toNat) d_Idx).Col), .int .i64 ((p_t.Idxs.getD (((i_Table_findIdx p_t p_name)).toNat) d_Idx).Stage)]) rfl (hB74.cells (n := 3) rfl)⟩ .nil) ?_)))
  have hM76 : (i_Table_idx p_t p_name) = ((p_t.Idxs.getD (((i_Table_findIdx p_t p_name)).toNat) d_Idx)) := by simp only [i_Table_idx, cL]
  rw [hM76]
  exact ⟨rfl, (okL.getD o3.2.2 ok_d_Idx _), (Below.only (Ex.trans (Ex.trans (Ex.trans (Ex.refl w) hE14) hE20) hE66) hO75 (by omega))⟩
theorem c_g_slices_Clone_string {A1 : Option Addr} {c1 : Nat} {w : World} (p_s : List Str) (h1 : RdS w (Iv 0 w.heap.size) (RF e_Str) 1 A1 p_s.length c1 p_s) (o2 : (okL okS) p_s) : Cal Tryz.prog 157 #[.slice A1 p_s.length c1] w fun v w' => ∃ A_1 c_1 lo_1 hi_1, v = .slice A_1 ((g_slices_Clone_string p_s).length) c_1 ∧ OwnL w' lo_1 hi_1 9 1 (RF e_Str) A_1 ((g_slices_Clone_string p_s).length) c_1 (g_slices_Clone_string p_s) ∧ (okL okS) (g_slices_Clone_string p_s) ∧ (w.heap.size ≤ lo_1 ∧ lo_1 ≤ hi_1 ∧ hi_1 ≤ w'.heap.size) ∧ Ex w w' := by
 have hol3 := o2.1
 refine Cal.of func157 rfl ntmps157 rfl (CW.seq (CW.region (sd rfl (yl_assign rfl rfl (dn (CW.seq (CW.seq (CW.region ?_))))))))
 refine sd rfl (yl_move rfl rfl (sd rfl (yl_snil un22 rfl rfl rfl (dn (bcase (A1.isNone) (fun hb4 => ?_) (fun hb4 => ?_))))))
 ·have hnil5 : p_s = [] := RdS.nilA h1 hb4
  refine CW.cond_t rfl hb4 (CW.seq (CW.region (sd rfl (yl_assign rfl rfl (dn (CW.ret (tr (rr rfl (.cons rfl .nil) ?_))))))))
  have hM6 : (g_slices_Clone_string p_s) = (([] : List Str)) := by simp only [g_slices_Clone_string, hnil5, cond_true, cond_false, loopE_done, loopE_ret, List.append_nil]
  rw [hM6]
  exact ⟨none, 0, w.heap.size, w.heap.size, rfl, (OwnL.nil _ _ _ _ _ _), (okL.nil _), (by omega), (Ex.refl w)⟩
 ·refine CW.cond_f rfl hb4 (CW.skip (tn (CW.seq (CW.region (sd rfl (yl_buildSlice (cs := []) un22 ty9 (by decide) rfl opvs_nil (by kernel_rfl) ?_))))))
  intro b7 w8 hs9 hz10 hB11 hE12
  have hO13 : OwnL w8 b7 (b7 + 1) 9 1 (RF e_Str) (some ⟨b7, 0, none⟩) 0 0 ([] : List Str) := OwnL.of_box (S := fun _ => False) hB11 (Nat.le_refl _) (Nat.lt_succ_self _) EncL.nil (Nat.le_of_ble_eq_true rfl) (fun h => h) (fun _ h => False.elim h)
  refine sd rfl (yl_move rfl rfl ?_)
  obtain ⟨nw15, he16, hs17⟩ := RdS.src (RdS.ex good_Str h1 hE12)
  have hol18 : p_s.length ≤ 2147483648 := o2.1
  refine sd rfl (yl_appendL (S := (fun _ => False)) (lo := b7) (hi := (b7 + 1)) (xs := ([] : List Str)) (ys := p_s) good_Str un22 ty9 rfl (Nat.le_of_ble_eq_true rfl) rfl rfl rfl hO13 he16 hs17 rfl (by first | omega | (simp only [List.length_append, List.length_cons, List.length_nil, List.length_take, List.length_drop, List.length_replicate, List.length_set, toS_length]; omega)) (by first | omega | (simp only [List.length_append, List.length_cons, List.length_nil, List.length_take, List.length_drop, List.length_replicate, List.length_set, toS_length]; omega)) (by omega) (by omega) (fun _ h _ => False.elim h) (by omega) ?_)
  intro A19 c20 w21 row22 hO23 hG24 hrg25
  have hG24z := hG24.size
  refine sd rfl (yl_assign rfl rfl (dn (CW.ret (rr rfl (.cons rfl .nil) ?_))))
  have hM26 : (g_slices_Clone_string p_s) = ((([] : List Str) ++ p_s)) := by simp only [g_slices_Clone_string, cL]
  have hol27 : p_s.length ≤ 2147483648 := o2.1
  rw [hM26]
  exact ⟨A19, c20, b7, w21.heap.size, rfl, hO23, (okL.mk (xs := (([] : List Str) ++ p_s)) (by first | omega | (simp only [List.length_append, List.length_cons, List.length_nil, List.length_take, List.length_drop, List.length_replicate, List.length_set, toS_length]; omega)) (okE.append okE.nil (o2).2)), (by omega), (Below.grown (Ex.trans (Ex.refl w) hE12) hG24 (by omega) (fun k hk => by have := hrg25 k hk; omega))⟩
theorem c_g_slices_Clone_Idx {A1 : Option Addr} {c1 : Nat} {w : World} (p_s : List DIdx) (h1 : RdS w (Iv 0 w.heap.size) (RF e_Idx) 3 A1 p_s.length c1 p_s) (o2 : (okL ok_Idx) p_s) : Cal Tryz.prog 158 #[.slice A1 p_s.length c1] w fun v w' => ∃ A_1 c_1 lo_1 hi_1, v = .slice A_1 ((g_slices_Clone_Idx p_s).length) c_1 ∧ OwnL w' lo_1 hi_1 104 3 (RF e_Idx) A_1 ((g_slices_Clone_Idx p_s).length) c_1 (g_slices_Clone_Idx p_s) ∧ (okL ok_Idx) (g_slices_Clone_Idx p_s) ∧ (w.heap.size ≤ lo_1 ∧ lo_1 ≤ hi_1 ∧ hi_1 ≤ w'.heap.size) ∧ Ex w w' := by
 have hol3 := o2.1
 refine Cal.of func158 rfl ntmps158 rfl (CW.seq (CW.region (sd rfl (yl_assign rfl rfl (dn (CW.seq (CW.seq (CW.region ?_))))))))
 refine sd rfl (yl_move rfl rfl (sd rfl (yl_snil un32 rfl rfl rfl (dn (bcase (A1.isNone) (fun hb4 => ?_) (fun hb4 => ?_))))))
 ·have hnil5 : p_s = [] := RdS.nilA h1 hb4
  refine CW.cond_t rfl hb4 (CW.seq (CW.region (sd rfl (yl_assign rfl rfl (dn (CW.ret (tr (rr rfl (.cons rfl .nil) ?_))))))))
  have hM6 : (g_slices_Clone_Idx p_s) = (([] : List DIdx)) := by simp only [g_slices_Clone_Idx, hnil5, cond_true, cond_false, loopE_done, loopE_ret, List.append_nil]
  rw [hM6]
  exact ⟨none, 0, w.heap.size, w.heap.size, rfl, (OwnL.nil _ _ _ _ _ _), (okL.nil _), (by omega), (Ex.refl w)⟩
 ·refine CW.cond_f rfl hb4 (CW.skip (tn (CW.seq (CW.region (sd rfl (yl_buildSlice (cs := []) un32 ty104 (by decide) rfl opvs_nil (by kernel_rfl) ?_))))))
  intro b7 w8 hs9 hz10 hB11 hE12
  have hO13 : OwnL w8 b7 (b7 + 1) 104 3 (RF e_Idx) (some ⟨b7, 0, none⟩) 0 0 ([] : List DIdx) := OwnL.of_box (S := fun _ => False) hB11 (Nat.le_refl _) (Nat.lt_succ_self _) EncL.nil (Nat.le_of_ble_eq_true rfl) (fun h => h) (fun _ h => False.elim h)
  refine sd rfl (yl_move rfl rfl ?_)
  obtain ⟨nw15, he16, hs17⟩ := RdS.src (RdS.ex good_Idx h1 hE12)
  have hol18 : p_s.length ≤ 2147483648 := o2.1
  refine sd rfl (yl_appendL (S := (fun _ => False)) (lo := b7) (hi := (b7 + 1)) (xs := ([] : List DIdx)) (ys := p_s) good_Idx un32 ty104 rfl (Nat.le_of_ble_eq_true rfl) rfl rfl rfl hO13 he16 hs17 rfl (by first | omega | (simp only [List.length_append, List.length_cons, List.length_nil, List.length_take, List.length_drop, List.length_replicate, List.length_set, toS_length]; omega)) (by first | omega | (simp only [List.length_append, List.length_cons, List.length_nil, List.length_take, List.length_drop, List.length_replicate, List.length_set, toS_length]; omega)) (by omega) (by omega) (fun _ h _ => False.elim h) (by omega) ?_)
  intro A19 c20 w21 row22 hO23 hG24 hrg25
  have hG24z := hG24.size
  refine sd rfl (yl_assign rfl rfl (dn (CW.ret (rr rfl (.cons rfl .nil) ?_))))
  have hM26 : (g_slices_Clone_Idx p_s) = ((([] : List DIdx) ++ p_s)) := by simp only [g_slices_Clone_Idx, cL]
  have hol27 : p_s.length ≤ 2147483648 := o2.1
  rw [hM26]
  exact ⟨A19, c20, b7, w21.heap.size, rfl, hO23, (okL.mk (xs := (([] : List DIdx) ++ p_s)) (by first | omega | (simp only [List.length_append, List.length_cons, List.length_nil, List.length_take, List.length_drop, List.length_replicate, List.length_set, toS_length]; omega)) (okE.append okE.nil (o2).2)), (by omega), (Below.grown (Ex.trans (Ex.refl w) hE12) hG24 (by omega) (fun k hk => by have := hrg25 k hk; omega))⟩
theorem c_i_copyTable {A1 : Option Addr} {c1 : Nat} {A2 : Option Addr} {c2 : Nat} {w : World} (p_t : DTable) (h1 : RdS w (Iv 0 w.heap.size) (RF e_Str) 1 A1 p_t.Cols.length c1 p_t.Cols) (h2 : RdS w (Iv 0 w.heap.size) (RF e_Idx) 3 A2 p_t.Idxs.length c2 p_t.Idxs) (o3 : ok_Table p_t) : Cal Tryz.prog 139 #[.agg #[.string (bs (p_t.Name)), .slice A1 p_t.Cols.length c1, .slice A2 p_t.Idxs.length c2]] w fun v w' => ∃ A_1 c_1 lo_1 hi_1 A_2 c_2 lo_2 hi_2, v = .agg #[.string (bs ((i_copyTable p_t).Name)), .slice A_1 (((i_copyTable p_t).Cols).length) c_1, .slice A_2 (((i_copyTable p_t).Idxs).length) c_2] ∧ OwnL w' lo_1 hi_1 9 1 (RF e_Str) A_1 (((i_copyTable p_t).Cols).length) c_1 ((i_copyTable p_t).Cols) ∧ OwnL w' lo_2 hi_2 104 3 (RF e_Idx) A_2 (((i_copyTable p_t).Idxs).length) c_2 ((i_copyTable p_t).Idxs) ∧ ok_Table (i_copyTable p_t) ∧ (w.heap.size ≤ lo_1 ∧ lo_1 ≤ hi_1 ∧ hi_1 ≤ w'.heap.size) ∧ (w.heap.size ≤ lo_2 ∧ lo_2 ≤ hi_2 ∧ hi_2 ≤ w'.heap.size) ∧ (hi_1 ≤ lo_2 ∨ hi_2 ≤ lo_1) ∧ Ex w w' := by
 have hol4 : p_t.Name.length ≤ 1073741824 := o3.1
 have hol5 := o3.2.1.1
 have hol6 := o3.2.2.1
 refine Cal.of func139 rfl ntmps139 rfl (CW.seq (CW.region (sd rfl (yl_box rfl rfl rfl ?_))))
 intro b7 w8 hs9 hz10 hB11 hE12
 refine sd rfl (yl_alloc ty34 (cs := [.string (bs (([] : Str))), .slice none 0 0, .slice none 0 0]) rfl rfl ?_)
 intro b13 w14 hs15 hz16 hB17 hE18
 refine dn (CW.seq ?_)
 have q19 := Box.ex hB11 hE18
 refine CW.drawsI 8 (vgetI [DetI (.pointer (some ⟨b7, 0 + 0, none⟩)), DetI (.string (bs (p_t.Name))), DetI (.pointer (some ⟨b7, 0 + 1, none⟩)), DetI (.slice A1 p_t.Cols.length c1), fun lo hi v wq => ∃ A23 c23 lo23 hi23, v = .slice A23 ((g_slices_Clone_string p_t.Cols).length) c23 ∧ OwnL wq lo23 hi23 9 1 (RF e_Str) A23 ((g_slices_Clone_string p_t.Cols).length) c23 (g_slices_Clone_string p_t.Cols) ∧ (okL okS) (g_slices_Clone_string p_t.Cols) ∧ (lo ≤ lo23 ∧ lo23 ≤ hi23 ∧ hi23 ≤ hi), DetI (.pointer (some ⟨b7, 0 + 2, none⟩)), DetI (.slice A2 p_t.Idxs.length c2), fun lo hi v wq => ∃ A28 c28 lo28 hi28, v = .slice A28 ((g_slices_Clone_Idx p_t.Idxs).length) c28 ∧ OwnL wq lo28 hi28 104 3 (RF e_Idx) A28 ((g_slices_Clone_Idx p_t.Idxs).length) c28 (g_slices_Clone_Idx p_t.Idxs) ∧ (okL ok_Idx) (g_slices_Clone_Idx p_t.Idxs) ∧ (lo ≤ lo28 ∧ lo28 ≤ hi28 ∧ hi28 ≤ hi)]) Tryz.follows rfl rfl rfl rfl rfl rfl (vgetI_stable ⟨StableI.det _, StableI.det _, StableI.det _, StableI.det _, (fun _ _ _ _ _ ⟨A23, c23, lo23, hi23, hv, h23, ho24, hr0⟩ e => ⟨A23, c23, lo23, hi23, hv, OwnL.ex good_Str h23 e, ho24, hr0⟩), StableI.det _, StableI.det _, (fun _ _ _ _ _ ⟨A28, c28, lo28, hi28, hv, h28, ho29, hr0⟩ e => ⟨A28, c28, lo28, hi28, hv, OwnL.ex good_Idx h28 e, ho29, hr0⟩), trivial⟩) ⟨?_, ?_, ?_, ?_, ?_, ?_, ?_, ?_, trivial⟩ ?_
 ·exact oI rfl fun h => yl_fieldAddr fd34_0 rfl (h.old 1 _ rfl rfl) kI
 ·exact oI rfl fun h => yl_load1 ty9 rfl (h.dt 0 3 rfl rfl rfl) (((Box.ex q19 h.ex).cell 0).trans rfl) kI
 ·exact oI rfl fun h => yl_fieldAddr fd34_1 rfl (h.old 1 _ rfl rfl) kI
 ·exact oI rfl fun h => yl_load1 ty22 rfl (h.dt 2 5 rfl rfl rfl) (((Box.ex q19 h.ex).cell 1).trans rfl) kI
 ·intro L52 w53 hi54
  have hE55 := hi54.ex
  refine OpR.op' rfl (yl_call en157 rfl (oc (hi54.dt 3 6 rfl rfl rfl) oz) (Cal.mono (c_g_slices_Clone_string p_t.Cols (RdS.up (RdS.ex good_Str (RdS.ex good_Str (RdS.ex good_Str h1 hE12) hE18) hE55) good_Str) o3.2.1) ?_))
  rintro v61 w58 ⟨A59, c59, lo59, hi59, rfl, h59, ho60, hrn63, hE62⟩
  exact ⟨⟨A59, c59, lo59, hi59, rfl, h59, ho60, hrn63⟩, hE62⟩
 ·exact oI rfl fun h => yl_fieldAddr fd34_2 rfl (h.old 1 _ rfl rfl) kI
 ·exact oI rfl fun h => yl_load1 ty32 rfl (h.dt 5 8 rfl rfl rfl) (((Box.ex q19 h.ex).cell 2).trans rfl) kI
 ·intro L75 w76 hi77
  have hE78 := hi77.ex
  refine OpR.op' rfl (yl_call en158 rfl (oc (hi77.dt 6 9 rfl rfl rfl) oz) (Cal.mono (c_g_slices_Clone_Idx p_t.Idxs (RdS.up (RdS.ex good_Idx (RdS.ex good_Idx (RdS.ex good_Idx h2 hE12) hE18) hE78) good_Idx) o3.2.2) ?_))
  rintro v84 w81 ⟨A82, c82, lo82, hi82, rfl, h82, ho83, hrn86, hE85⟩
  exact ⟨⟨A82, c82, lo82, hi82, rfl, h82, ho83, hrn86⟩, hE85⟩
 ·intro fl90 fh91 L87 w88 hp89
  have hE92 := hp89.ex
  have hE92z := Ex.size hE92
  have hx93 := hp89.old 2 _ rfl rfl
  have hr96 := hp89.rng 4 rfl
  obtain ⟨_, hx95, A23_97, c23_98, lo23_99, hi23_100, rfl, h101, h102, hrn103⟩ := hp89.new 4 7 rfl rfl
  have hr105 := hp89.rng 7 rfl
  have hsp106 := hp89.sep 4 7 rfl rfl rfl
  obtain ⟨_, hx104, A28_107, c28_108, lo28_109, hi28_110, rfl, h111, h112, hrn113⟩ := hp89.new 7 10 rfl rfl
  refine sd rfl (yl_build (cs := [.string (bs (p_t.Name)), .slice A23_97 ((g_slices_Clone_string p_t.Cols).length) c23_98, .slice A28_107 ((g_slices_Clone_Idx p_t.Idxs).length) c28_108]) rfl (oc (hp89.nt 1 4 rfl rfl rfl) (oc hx95 (oc hx104 oz))) (by kernel_rfl) (SeqR.u rfl rfl (yl_store (vs := [.string (bs (p_t.Name)), .slice A23_97 ((g_slices_Clone_string p_t.Cols).length) c23_98, .slice A28_107 ((g_slices_Clone_Idx p_t.Idxs).length) c28_108]) ty34 rfl hx93 rfl rfl rfl rfl (Box.ex hB17 hE92) (Nat.le_of_ble_eq_true rfl) ?_)))
  intro w115 hB116 hO117
  have hB116 : Box w115 b13 34 [.string (bs (p_t.Name)), .slice A23_97 ((g_slices_Clone_string p_t.Cols).length) c23_98, .slice A28_107 ((g_slices_Clone_Idx p_t.Idxs).length) c28_108] := hB116
  have hO117z := hO117.size
  refine dn (CW.sub (Sub.cons (d := 2) hx93 (Sub.nil _)) (CW.ret (rr rfl (.cons ⟨_, rfl, run_loadN ty34 (cs := [.string (bs (p_t.Name)), .slice A23_97 ((g_slices_Clone_string p_t.Cols).length) c23_98, .slice A28_107 ((g_slices_Clone_Idx p_t.Idxs).length) c28_108]) rfl (hB116.cells (n := 3) rfl)⟩ .nil) ?_)))
  have hM118 : (i_copyTable p_t) = ((⟨p_t.Name, (g_slices_Clone_string p_t.Cols), (g_slices_Clone_Idx p_t.Idxs)⟩ : DTable)) := by simp only [i_copyTable, cL]
  rw [hM118]
  exact ⟨A23_97, c23_98, lo23_99, hi23_100, A28_107, c28_108, lo28_109, hi28_110, rfl, (OwnL.only good_Str h101 hO117 (by omega)), (OwnL.only good_Idx h111 hO117 (by omega)), ⟨o3.1, h102, h112⟩, (by omega), (by omega), (by omega), (Below.only (Ex.trans (Ex.trans (Ex.trans (Ex.refl w) hE12) hE18) hE92) hO117 (by omega))⟩
theorem c_i_Table_withStage {A1 : Option Addr} {c1 : Nat} {A2 : Option Addr} {c2 : Nat} {w : World} (p_t : DTable) (p_name : Str) (p_stage : Int) (h1 : RdS w (Iv 0 w.heap.size) (RF e_Str) 1 A1 p_t.Cols.length c1 p_t.Cols) (h2 : RdS w (Iv 0 w.heap.size) (RF e_Idx) 3 A2 p_t.Idxs.length c2 p_t.Idxs) (o3 : ok_Table p_t) (o4 : okS p_name) (pre0 : (0 ≤ i_Table_findIdx p_t p_name ∧ i_Table_findIdx p_t p_name < (p_t.Idxs.length : Int))) : Cal Tryz.prog 140 #[.agg #[.string (bs (p_t.Name)), .slice A1 p_t.Cols.length c1, .slice A2 p_t.Idxs.length c2], .string (bs (p_name)), .int .i64 (p_stage)] w fun v w' => ∃ A_1 c_1 lo_1 hi_1 A_2 c_2 lo_2 hi_2, v = .agg #[.string (bs ((i_Table_withStage p_t p_name p_stage).Name)), .slice A_1 (((i_Table_withStage p_t p_name p_stage).Cols).length) c_1, .slice A_2 (((i_Table_withStage p_t p_name p_stage).Idxs).length) c_2] ∧ OwnL w' lo_1 hi_1 9 1 (RF e_Str) A_1 (((i_Table_withStage p_t p_name p_stage).Cols).length) c_1 ((i_Table_withStage p_t p_name p_stage).Cols) ∧ OwnL w' lo_2 hi_2 104 3 (RF e_Idx) A_2 (((i_Table_withStage p_t p_name p_stage).Idxs).length) c_2 ((i_Table_withStage p_t p_name p_stage).Idxs) ∧ ok_Table (i_Table_withStage p_t p_name p_stage) ∧ (w.heap.size ≤ lo_1 ∧ lo_1 ≤ hi_1 ∧ hi_1 ≤ w'.heap.size) ∧ (w.heap.size ≤ lo_2 ∧ lo_2 ≤ hi_2 ∧ hi_2 ≤ w'.heap.size) ∧ (hi_1 ≤ lo_2 ∨ hi_2 ≤ lo_1) ∧ Ex w w' := by
 have hol5 : p_t.Name.length ≤ 1073741824 := o3.1
 have hol6 := o3.2.1.1
 have hol7 := o3.2.2.1
 have hol8 : p_name.length ≤ 1073741824 := o4
 refine Cal.of func140 rfl ntmps140 rfl (CW.seq (CW.region (sd rfl (yl_box rfl rfl rfl ?_))))
 intro b9 w10 hs11 hz12 hB13 hE14
 refine sd rfl (yl_alloc ty34 (cs := [.string (bs (([] : Str))), .slice none 0 0, .slice none 0 0]) rfl rfl ?_)
 intro b15 w16 hs17 hz18 hB19 hE20
 refine dn (CW.seq (CW.region ?_))
 have q21 := Box.ex hB13 hE20
 refine sd rfl (yl_loadN ty34 rfl rfl (q21.cells (n := 3) rfl) rfl ?_)
 have q23 := RdS.ex good_Str (RdS.ex good_Str h1 hE14) hE20
 have q25 := RdS.ex good_Idx (RdS.ex good_Idx h2 hE14) hE20
 refine sd rfl (yl_call en139 rfl (oc rfl oz) (Cal.mono (c_i_copyTable p_t (RdS.up q23 good_Str) (RdS.up q25 good_Idx) o3) ?_))
 rintro v30 w26 ⟨A27, c27, lo27, hi27, A28, c28, lo28, hi28, rfl, h27, h28, ho29, hrn32, hrn33, hrn34, hE31⟩
 have hE31z := Ex.size hE31
 have hrf35 := rf_copyTable p_t
 refine sd rfl (yl_alloc ty34 (cs := [.string (bs (([] : Str))), .slice none 0 0, .slice none 0 0]) rfl rfl ?_)
 intro b36 w37 hs38 hz39 hB40 hE41
 refine SeqR.u rfl rfl (yl_store (vs := [.string (bs ((i_copyTable p_t).Name)), .slice A27 (((i_copyTable p_t).Cols).length) c27, .slice A28 (((i_copyTable p_t).Idxs).length) c28]) ty34 rfl rfl rfl rfl rfl rfl hB40 (Nat.le_of_ble_eq_true rfl) ?_)
 intro w42 hB43 hO44
 have hB43 : Box w42 b36 34 [.string (bs ((i_copyTable p_t).Name)), .slice A27 (((i_copyTable p_t).Cols).length) c27, .slice A28 (((i_copyTable p_t).Idxs).length) c28] := hB43
 have hO44z := hO44.size
 refine dn (CW.seq ?_)
 have hrf55 := rf_i_findIdx p_t p_name
 refine CW.drawsI 6 (vgetI ([.pointer (some ⟨b36, 0 + 2, none⟩), .slice A28 (((i_copyTable p_t).Idxs).length) c28, .agg #[.string (bs (p_t.Name)), .slice A1 p_t.Cols.length c1, .slice A2 p_t.Idxs.length c2], .string (bs (p_name)), .int .i64 ((i_Table_findIdx p_t p_name)), .int .i64 (p_stage)].map DetI)) Tryz.follows rfl rfl rfl rfl rfl rfl (vgetI_stable (stD _)) ⟨?_, ?_, ?_, ?_, ?_, ?_, trivial⟩ ?_
 ·exact oI rfl fun h => yl_fieldAddr fd34_2 rfl (h.old 7 _ rfl rfl) kI
 ·exact oI rfl fun h => yl_load1 ty32 rfl (h.dt 0 10 rfl rfl rfl) (((Box.ex hB43 h.ex).cell 2).trans rfl) kI
 ·intro L67 w68 hi69
  have hE70 := hi69.ex
  have hE70z := Ex.size hE70
  exact os rfl ((yl_loadN ty34 rfl (hi69.old 3 _ rfl rfl) ((Box.ex (Box.only (Box.ex (Box.ex q21 hE31) hE41) hO44 (by omega)) hE70).cells (n := 3) rfl) rfl kI))
 ·exact oI rfl fun h => yl_move rfl (h.old 1 _ rfl rfl) kI
 ·intro L78 w79 hi80
  have hE81 := hi80.ex
  have hE81z := Ex.size hE81
  exact OpR.op' rfl (yl_call en125 rfl (oc (hi80.dt 2 12 rfl rfl rfl) (oc (hi80.dt 3 13 rfl rfl rfl) oz)) (Cal.mono (c_i_Table_findIdx p_t p_name (RdS.up (RdS.ex good_Str (RdS.only good_Str (RdS.ex good_Str (RdS.ex good_Str q23 hE31) hE41) hO44 (by simp only [Iv]; omega)) hE81) good_Str) (RdS.up (RdS.ex good_Idx (RdS.only good_Idx (RdS.ex good_Idx (RdS.ex good_Idx q25 hE31) hE41) hO44 (by simp only [Iv]; omega)) hE81) good_Idx) o3 o4) fun _ _ h => h))
 ·exact oI rfl fun h => yl_move rfl (h.old 2 _ rfl rfl) kI
 ·intro fl97 fh98 L94 w95 hp96
  have hE99 := hp96.ex
  have hE99z := Ex.size hE99
  have q108 := OwnL.ex good_Idx (OwnL.only good_Idx (OwnL.ex good_Idx h28 hE41) hO44 (by omega)) hE99
  obtain ⟨eb109, eo109, _, eA109, _, ebl109, _, eR109, eC109⟩ := RdS.atD (OwnL.rd good_Idx q108) d_Idx (i := ((i_Table_findIdx p_t p_name)).toNat) (by first | omega | assumption | (simp only [wI] at *; omega))
  obtain rfl := eR109
  have eC109 : Cells w95 eb109 (eo109 + (((i_Table_findIdx p_t p_name)).toNat) * 3) [.string (bs ((((i_copyTable p_t).Idxs).getD (((i_Table_findIdx p_t p_name)).toNat) d_Idx).Name)), .int .i64 ((((i_copyTable p_t).Idxs).getD (((i_Table_findIdx p_t p_name)).toNat) d_Idx).Col), .int .i64 ((((i_copyTable p_t).Idxs).getD (((i_Table_findIdx p_t p_name)).toNat) d_Idx).Stage)] := eC109
  refine sd rfl (yl_indexAddr un32 ty104 rfl (hp96.nt 1 11 rfl rfl rfl) (hp96.nt 4 14 rfl rfl rfl) eA109 (by first | omega | assumption | (simp only [wI] at *; omega)) (by first | omega | assumption | (simp only [wI] at *; omega)) (sd rfl (yl_fieldAddr fd104_2 rfl rfl ?_)))
  have hrg110 := OwnL.rng q108 (i := ((i_Table_findIdx p_t p_name)).toNat) (by first | omega | assumption | (simp only [wI] at *; omega)) eb109 (by rw [eA109]; rfl)
  refine SeqR.u rfl rfl (yl_storeF (off := eo109) (i := ((i_Table_findIdx p_t p_name)).toNat) (d := 2) (dx := d_Idx) (x' := (⟨(((i_copyTable p_t).Idxs).getD (((i_Table_findIdx p_t p_name)).toNat) d_Idx).Name, (((i_copyTable p_t).Idxs).getD (((i_Table_findIdx p_t p_name)).toNat) d_Idx).Col, p_stage⟩ : DIdx)) (vs := [.int .i64 (p_stage)]) ty3 rfl q108 eA109 rfl (hp96.nt 5 15 rfl rfl rfl) rfl rfl rfl (by first | omega | assumption | (simp only [wI] at *; omega)) (Nat.le_of_ble_eq_true rfl) rfl rfl ?_)
  intro w111 hB112 hO113
  have hO113z := hO113.size
  refine dn (CW.sub (Sub.cons (d := 6) (hp96.old 6 _ rfl rfl) (Sub.cons (d := 7) (hp96.old 7 _ rfl rfl) (Sub.nil _))) (CW.seq (CW.region (sd rfl (yl_loadN ty34 rfl rfl ((Box.only (Box.ex hB43 hE99) hO113 (by omega)).cells (n := 3) rfl) rfl (SeqR.u rfl rfl (yl_store (vs := [.string (bs ((i_copyTable p_t).Name)), .slice A27 (((i_copyTable p_t).Cols).length) c27, .slice A28 (((i_copyTable p_t).Idxs).length) c28]) ty34 rfl rfl rfl rfl rfl rfl (Box.only (Box.ex (Box.only (Box.ex (Box.ex hB19 hE31) hE41) hO44 (by omega)) hE99) hO113 (by omega)) (Nat.le_of_ble_eq_true rfl) ?_)))))))
  intro w121 hB122 hO123
  have hB122 : Box w121 b15 34 [.string (bs ((i_copyTable p_t).Name)), .slice A27 (((i_copyTable p_t).Cols).length) c27, .slice A28 (((i_copyTable p_t).Idxs).length) c28] := hB122
  have hO123z := hO123.size
  refine dn (CW.ret (rr rfl (.cons ⟨_, rfl, run_loadN ty34 (cs := [.string (bs ((i_copyTable p_t).Name)), .slice A27 (((i_copyTable p_t).Cols).length) c27, .slice A28 (((i_copyTable p_t).Idxs).length) c28]) rfl (hB122.cells (n := 3) rfl)⟩ .nil) ?_))
  have hM124 : (i_Table_withStage p_t p_name p_stage) = ((⟨(i_copyTable p_t).Name, (i_copyTable p_t).Cols, (((i_copyTable p_t).Idxs).set (((i_Table_findIdx p_t p_name)).toNat) (⟨(((i_copyTable p_t).Idxs).getD (((i_Table_findIdx p_t p_name)).toNat) d_Idx).Name, (((i_copyTable p_t).Idxs).getD (((i_Table_findIdx p_t p_name)).toNat) d_Idx).Col, p_stage⟩ : DIdx))⟩ : DTable)) := by simp only [i_Table_withStage, cL]
  have q130 := OwnL.only good_Idx hB112 hO123 (by omega)
  have hfx131 := (q130).1
  have hol132 : ((i_copyTable p_t).Idxs).length ≤ 2147483648 := ho29.2.2.1
  rw [hM124]
  exact ⟨A27, c27, lo27, hi27, A28, c28, lo28, hi28, (by first | rfl | (simp only [List.length_replicate, List.length_set]; done) | (simp only [List.length_replicate, List.length_set]; rfl) | rw [hfx131]), (OwnL.only good_Str (OwnL.only good_Str (OwnL.ex good_Str (OwnL.only good_Str (OwnL.ex good_Str h27 hE41) hO44 (by omega)) hE99) hO113 (by omega)) hO123 (by omega)), (OwnL.fix q130), ⟨ho29.1, ho29.2.1, (okL.mk (xs := (((i_copyTable p_t).Idxs).set (((i_Table_findIdx p_t p_name)).toNat) (⟨(((i_copyTable p_t).Idxs).getD (((i_Table_findIdx p_t p_name)).toNat) d_Idx).Name, (((i_copyTable p_t).Idxs).getD (((i_Table_findIdx p_t p_name)).toNat) d_Idx).Col, p_stage⟩ : DIdx))) (by first | omega | (simp only [List.length_append, List.length_cons, List.length_nil, List.length_take, List.length_drop, List.length_replicate, List.length_set, toS_length]; omega)) (okE.set (ho29.2.2).2 (okL.getD ho29.2.2 ok_d_Idx _)))⟩, (by omega), (by omega), (by omega), (Below.only (Below.only (Ex.trans (Below.only (Ex.trans (Ex.trans (Ex.trans (Ex.trans (Ex.refl w) hE14) hE20) hE31) hE41) hO44 (by omega)) hE99) hO113 (by omega)) hO123 (by omega))⟩
end Go.Proofs.YtdbobbmagmcpnaaGreatDoor
