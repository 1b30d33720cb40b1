/- Is Filled: what each call returns, part 4. -/
import Derived.Test.YtdbobbmagmcpnaaGreatDoorIsFilledC3
set_option maxRecDepth 100000
set_option maxHeartbeats 2000000
open Go.Proofs.Tryz Go.Proofs.YtdbobbmagmcpnaaGreatDoor.Tryz
set_option linter.unusedVariables false
set_option linter.unusedSimpArgs false
namespace Go.Proofs.YtdbobbmagmcpnaaGreatDoor
open Go.RowKit Go.X
theorem c_i_Table_wayTo {A1 : Option Addr} {c1 : Nat} {A2 : Option Addr} {c2 : Nat} {w : World} (p_t : DTable) (p_name : Str) (p_stage : Int) (h1 : RdS w (Iv 0 w.heap.size) (RF e_Str) 1 A1 p_t.Cols.length c1 p_t.Cols) (h2 : RdS w (Iv 0 w.heap.size) (RF e_Idx) 3 A2 p_t.Idxs.length c2 p_t.Idxs) (o3 : ok_Table p_t) (o4 : okS p_name) (pre0 : (0 ≤ i_Table_findIdx p_t p_name ∧ i_Table_findIdx p_t p_name < (p_t.Idxs.length : Int))) (pre1 : (0 ≤ (i_Table_idx p_t p_name).Stage ∧ (i_Table_idx p_t p_name).Stage ≤ 3)) (pre2 : (0 ≤ p_stage ∧ p_stage ≤ 3)) : Cal Tryz.prog 116 #[.agg #[.string (bs (p_t.Name)), .slice A1 p_t.Cols.length c1, .slice A2 p_t.Idxs.length c2], .string (bs (p_name)), .int .i64 (p_stage)] w fun v w' => ∃ A_1 c_1 lo_1 hi_1, v = .slice A_1 ((i_Table_wayTo p_t p_name p_stage).length) c_1 ∧ OwnD w' lo_1 hi_1 34 3 RO_Table A_1 ((i_Table_wayTo p_t p_name p_stage).length) c_1 (i_Table_wayTo p_t p_name p_stage) ∧ (okL ok_Table) (i_Table_wayTo p_t p_name p_stage) ∧ (w.heap.size ≤ lo_1 ∧ lo_1 ≤ hi_1 ∧ hi_1 ≤ w'.heap.size) ∧ Ex w w' := by
 have hol5 : p_t.Name.length ≤ 1073741824 := o3.1
 have hol6 := o3.2.1.1
 have hol7 := o3.2.2.1
 have hol8 : p_name.length ≤ 1073741824 := o4
 refine Cal.of func116 rfl ntmps116 rfl (CW.seq (CW.region (sd rfl (yl_box rfl rfl rfl ?_))))
 intro b9 w10 hs11 hz12 hB13 hE14
 refine sd rfl (yl_assign rfl rfl (dn (CW.seq (CW.region (sd rfl (yl_loadN ty34 rfl rfl (hB13.cells (n := 3) rfl) rfl (sd rfl (yl_move rfl rfl ?_))))))))
 have q15 := RdS.ex good_Str h1 hE14
 have q16 := RdS.ex good_Idx h2 hE14
 refine sd rfl (yl_call en91 rfl (oc rfl (oc rfl oz)) (Cal.mono (c_i_Table_idx p_t p_name (RdS.up q15 good_Str) (RdS.up q16 good_Idx) o3 o4 (by first | omega | assumption | (simp only [wI] at *; omega))) ?_))
 rintro v19 w17 ⟨rfl, ho18, hE20⟩
 have hE20z := Ex.size hE20
 refine sd rfl (yl_field1 fd104_2 rfl rfl rfl (sd rfl (yl_assign rfl rfl (dn (CW.seq (CW.region ?_))))))
 have q21 := Box.ex hB13 hE20
 refine sd rfl (yl_loadN ty34 rfl rfl (q21.cells (n := 3) rfl) rfl ?_)
 have q22 := RdS.ex good_Str q15 hE20
 have q23 := RdS.ex good_Idx q16 hE20
 refine sd rfl (yl_call en139 rfl (oc rfl oz) (Cal.mono (c_i_copyTable p_t (RdS.up q22 good_Str) (RdS.up q23 good_Idx) o3) ?_))
 rintro v28 w24 ⟨A25, c25, lo25, hi25, A26, c26, lo26, hi26, rfl, h25, h26, ho27, hrn30, hrn31, hrn32, hE29⟩
 have hE29z := Ex.size hE29
 have hrf33 := rf_copyTable p_t
 refine sd rfl (yl_buildSlice (cs := [.string (bs ((i_copyTable p_t).Name)), .slice A25 (((i_copyTable p_t).Cols).length) c25, .slice A26 (((i_copyTable p_t).Idxs).length) c26]) un56 ty34 (by decide) rfl (oc rfl oz) (by kernel_rfl) ?_)
 intro b34 w35 hs36 hz37 hB38 hE39
 have hO40 : OwnD w35 w17.heap.size (b34 + 1) 34 3 RO_Table (some ⟨b34, 0, none⟩) 1 1 ([(i_copyTable p_t)] : List DTable) := OwnD.of_box (b := b34) (xs := ([(i_copyTable p_t)] : List DTable)) (cells := [[.string (bs ((i_copyTable p_t).Name)), .slice A25 (((i_copyTable p_t).Cols).length) c25, .slice A26 (((i_copyTable p_t).Idxs).length) c26]]) (by rw [List.flatten_singleton]; exact hB38) (by omega) (Nat.lt_succ_self _) (.cons (l := w17.heap.size) (h := b34) (Nat.le_refl _) (by omega) rfl (fun k hk => by cases hk; exact .inr (Nat.le_refl _)) (mkO_Table (l := w17.heap.size) (h := b34) (OwnL.ex good_Str h25 hE39) (OwnL.ex good_Idx h26 hE39) (by omega) (by omega) (by omega)) (.nil (Nat.le_succ _))) (Nat.le_of_ble_eq_true rfl)
 refine sd rfl (yl_assign rfl rfl (dn (CW.seq (CW.block (CW.loop (fun m97 L98 w99 => ∃ (x92 : Int) (x93 : List DTable) (A94 : Option Addr) (c95 : Nat) (u96 : Nat), ((p_stage - x92).toNat + (x92 - p_stage).toNat) < m97 ∧ w35.heap.size ≤ w99.heap.size ∧ lkp L98 1 = some (.string (bs (p_name))) ∧ lkp L98 2 = some (.int .i64 (p_stage)) ∧ lkp L98 3 = some (.pointer (some ⟨b9, 0, none⟩)) ∧ lkp L98 7 = some (.int .i64 (x92)) ∧ lkp L98 8 = some (.slice A94 x93.length c95) ∧ Box w99 b9 34 [.string (bs (p_t.Name)), .slice A1 p_t.Cols.length c1, .slice A2 p_t.Idxs.length c2] ∧ RdS w99 (Iv 0 w.heap.size) (RF e_Str) 1 A1 p_t.Cols.length c1 p_t.Cols ∧ RdS w99 (Iv 0 w.heap.size) (RF e_Idx) 3 A2 p_t.Idxs.length c2 p_t.Idxs ∧ OwnD w99 w17.heap.size u96 34 3 RO_Table A94 x93.length c95 x93 ∧ Ex w w99 ∧ (w17.heap.size ≤ u96 ∧ u96 ≤ w99.heap.size) ∧ x93.length + 1 * ((p_stage - x92).toNat + (x92 - p_stage).toNat) ≤ 1 + 1 * ((p_stage - (i_Table_idx p_t p_name).Stage).toNat + ((i_Table_idx p_t p_name).Stage - p_stage).toNat) ∧ (∀ y ∈ x93, ok_Table y) ∧ 0 ≤ x92 ∧ x92 ≤ 3 ∧ loopW (B_i_Table_wayTo_0 p_t p_name p_stage) m97 (x92, x93) = loopW (B_i_Table_wayTo_0 p_t p_name p_stage) (((p_stage - (i_Table_idx p_t p_name).Stage).toNat + ((i_Table_idx p_t p_name).Stage - p_stage).toNat) + 1) ((i_Table_idx p_t p_name).Stage, ([(i_copyTable p_t)] : List DTable))) (((p_stage - (i_Table_idx p_t p_name).Stage).toNat + ((i_Table_idx p_t p_name).Stage - p_stage).toNat) + 1) ?_ ?_)))))
 ·exact ⟨(i_Table_idx p_t p_name).Stage, ([(i_copyTable p_t)] : List DTable), (some ⟨b34, 0, none⟩), 1, (b34 + 1), Nat.lt_succ_self _, Nat.le_refl _, rfl, rfl, rfl, rfl, rfl, (Box.ex (Box.ex q21 hE29) hE39), (RdS.ex good_Str (RdS.ex good_Str q22 hE29) hE39), (RdS.ex good_Idx (RdS.ex good_Idx q23 hE29) hE39), hO40, (Ex.trans (Ex.trans (Ex.trans (Ex.trans (Ex.refl w) hE14) hE20) hE29) hE39), (by omega), (by first | (simp; done) | (first | omega | (simp only [List.length_append, List.length_cons, List.length_nil, List.length_set, toS_length]; omega))), ((okL.mk (Nat.le_of_ble_eq_true rfl) (okE.cons ho27 okE.nil))).2, (by first | omega | assumption | (simp only [wI] at *; omega)), (by first | omega | assumption | (simp only [wI] at *; omega)), rfl⟩
 ·rintro m110 L111 w112 ⟨x92, x93, A94, c95, u96, hk113, hsz115, hl116, hl117, hl118, hl119, hl120, hf121, hf122, hf123, hf124, hf125, hu126, hln127, hok128, hv129, hv130, hI114⟩
  refine CW.sub (Sub.cons hl116 (Sub.cons hl117 (Sub.cons hl118 (Sub.cons hl119 (Sub.cons hl120 (Sub.nil _)))))) ?_
  have hf121z := Box.lt hf121
  have hf125z := Ex.size hf125
  refine CW.seq (CW.seq (CW.region (sd rfl (yl_move rfl rfl (sd rfl (yl_move rfl rfl (sd rfl (yl_neq rfl rfl rfl (dn (bcase (decide (x92 = p_stage)) (fun hb131 => ?_) (fun hb131 => ?_)))))))))))
  ·have hb131p := dec_t hb131
   refine CW.cond_f rfl (not_t hb131) (CW.exit (tx (tx ?_)))
   have hB133 : B_i_Table_wayTo_0 p_t p_name p_stage (x92, x93) = .brk (x92, x93) := by simp only [B_i_Table_wayTo_0, hb131, cL]
   have hL132 : loopW (B_i_Table_wayTo_0 p_t p_name p_stage) (((p_stage - (i_Table_idx p_t p_name).Stage).toNat + ((i_Table_idx p_t p_name).Stage - p_stage).toNat) + 1) ((i_Table_idx p_t p_name).Stage, ([(i_copyTable p_t)] : List DTable)) = .done (x92, x93) := hI114.symm.trans (loopW.brk hk113 hB133)
   refine bx (tn (CW.seq (CW.region (sd rfl (yl_move rfl rfl (sd rfl (yl_assign rfl rfl (dn (CW.ret ?_)))))))))
   refine rr rfl (.cons rfl .nil) ?_
   have hM134 : (i_Table_wayTo p_t p_name p_stage) = (x93) := by simp only [i_Table_wayTo, hb131, hL132, cL]
   rw [hM134]
   exact ⟨A94, c95, w17.heap.size, u96, rfl, hf124, (okL.mk (xs := x93) (by first | omega | (simp only [List.length_append, List.length_cons, List.length_nil, List.length_take, List.length_drop, List.length_replicate, List.length_set, toS_length]; omega)) hok128), (by omega), hf125⟩
  ·have hb131p := dec_f hb131
   refine CW.cond_t rfl (not_f hb131) (CW.skip (tn (CW.block (CW.seq (CW.seq (CW.region (sd rfl (yl_move rfl rfl (sd rfl (yl_move rfl rfl ?_))))))))))
   refine sd rfl (yl_lss rfl rfl rfl (dn (bcase (decide (x92 < p_stage)) (fun hb135 => ?_) (fun hb135 => ?_))))
   ·have hb135p := dec_t hb135
    refine CW.cond_t rfl hb135 (CW.region (sd rfl (yl_move rfl rfl (sd rfl (yl_add rfl rfl rfl (sd rfl (yl_assign rfl rfl (dn (CW.region (sd rfl (yl_move rfl rfl ?_)))))))))))
    refine sd rfl (yl_loadN ty34 rfl rfl (hf121.cells (n := 3) rfl) rfl (sd rfl (yl_move rfl rfl (sd rfl (yl_move rfl rfl (sd rfl (yl_call en140 rfl (oc rfl (oc rfl (oc rfl oz))) (Cal.mono (c_i_Table_withStage p_t p_name (IntKind.wrap .i64 (x92 + 1)) (RdS.up hf122 good_Str) (RdS.up hf123 good_Idx) o3 o4 (by first | omega | assumption | (simp only [wI] at *; omega))) ?_))))))))
    rintro v140 w136 ⟨A137, c137, lo137, hi137, A138, c138, lo138, hi138, rfl, h137, h138, ho139, hrn142, hrn143, hrn144, hE141⟩
    have hE141z := Ex.size hE141
    refine sd rfl (yl_buildSlice (cs := [.string (bs ((i_Table_withStage p_t p_name (IntKind.wrap .i64 (x92 + 1))).Name)), .slice A137 (((i_Table_withStage p_t p_name (IntKind.wrap .i64 (x92 + 1))).Cols).length) c137, .slice A138 (((i_Table_withStage p_t p_name (IntKind.wrap .i64 (x92 + 1))).Idxs).length) c138]) un56 ty34 (by decide) rfl (oc rfl oz) (by kernel_rfl) ?_)
    intro b145 w146 hs147 hz148 hB149 hE150
    have hO151 : OwnD w146 w112.heap.size (b145 + 1) 34 3 RO_Table (some ⟨b145, 0, none⟩) 1 1 ([(i_Table_withStage p_t p_name (IntKind.wrap .i64 (x92 + 1)))] : List DTable) := OwnD.of_box (b := b145) (xs := ([(i_Table_withStage p_t p_name (IntKind.wrap .i64 (x92 + 1)))] : List DTable)) (cells := [[.string (bs ((i_Table_withStage p_t p_name (IntKind.wrap .i64 (x92 + 1))).Name)), .slice A137 (((i_Table_withStage p_t p_name (IntKind.wrap .i64 (x92 + 1))).Cols).length) c137, .slice A138 (((i_Table_withStage p_t p_name (IntKind.wrap .i64 (x92 + 1))).Idxs).length) c138]]) (by rw [List.flatten_singleton]; exact hB149) (by omega) (Nat.lt_succ_self _) (.cons (l := w112.heap.size) (h := b145) (Nat.le_refl _) (by omega) rfl (fun k hk => by cases hk; exact .inr (Nat.le_refl _)) (mkO_Table (l := w112.heap.size) (h := b145) (OwnL.ex good_Str h137 hE150) (OwnL.ex good_Idx h138 hE150) (by omega) (by omega) (by omega)) (.nil (Nat.le_succ _))) (Nat.le_of_ble_eq_true rfl)
    refine sd rfl (yl_appendD (xs := x93) (ys := ([(i_Table_withStage p_t p_name (IntKind.wrap .i64 (x92 + 1)))] : List DTable)) goodO_Table un56 ty34 rfl (Nat.le_of_ble_eq_true rfl) rfl rfl rfl (OwnD.ex goodO_Table (OwnD.ex goodO_Table hf124 hE141) hE150) hO151 (by first | omega | (simp only [List.length_append, List.length_cons, List.length_nil, List.length_take, List.length_drop, List.length_replicate, List.length_set, toS_length]; omega)) (by first | omega | (simp only [List.length_append, List.length_cons, List.length_nil, List.length_take, List.length_drop, List.length_replicate, List.length_set, toS_length]; omega)) (by omega) (by omega) (by omega) (by omega) ?_)
    intro A154 c155 w156 row157 hO158 hG159 hrg160
    have hG159z := hG159.size
    refine sd rfl (yl_assign rfl rfl (SeqR.done (bn (tn ?_))))
    have hB161 : B_i_Table_wayTo_0 p_t p_name p_stage (x92, x93) = .cont (IntKind.wrap .i64 (x92 + 1), (x93 ++ ([(i_Table_withStage p_t p_name (IntKind.wrap .i64 (x92 + 1)))] : List DTable))) := by simp only [B_i_Table_wayTo_0, hb131, hb135, cL]
    have hmu174 : ((p_stage - IntKind.wrap .i64 (x92 + 1)).toNat + (IntKind.wrap .i64 (x92 + 1) - p_stage).toNat) < ((p_stage - x92).toNat + (x92 - p_stage).toNat) := by first | omega | assumption | (simp only [wI] at *; omega)
    exact ⟨m110 - 1, by omega, IntKind.wrap .i64 (x92 + 1), (x93 ++ ([(i_Table_withStage p_t p_name (IntKind.wrap .i64 (x92 + 1)))] : List DTable)), A154, c155, w156.heap.size, (by omega), (by omega), rfl, rfl, rfl, rfl, rfl, (Box.grown (Box.ex (Box.ex hf121 hE141) hE150) hG159 (fun k hk => by have := hrg160 k hk; omega)), (RdS.grown good_Str (RdS.ex good_Str (RdS.ex good_Str hf122 hE141) hE150) hG159 (fun k hk => by have := hrg160 k hk; simp only [Iv]; omega)), (RdS.grown good_Idx (RdS.ex good_Idx (RdS.ex good_Idx hf123 hE141) hE150) hG159 (fun k hk => by have := hrg160 k hk; simp only [Iv]; omega)), hO158, (Below.grown (Ex.trans (Ex.trans hf125 hE141) hE150) hG159 (by omega) (fun k hk => by have := hrg160 k hk; omega)), (by omega), (by first | omega | (simp only [List.length_append, List.length_cons, List.length_nil, List.length_set, toS_length]; omega)), (okE.append hok128 ((okL.mk (Nat.le_of_ble_eq_true rfl) (okE.cons ho139 okE.nil))).2), (by first | omega | assumption | (simp only [wI] at *; omega)), (by first | omega | assumption | (simp only [wI] at *; omega)), (loopW.cont hk113 hB161).symm.trans hI114⟩
   ·have hb135p := dec_f hb135
    refine CW.cond_f rfl hb135 (CW.region (sd rfl (yl_move rfl rfl (sd rfl (yl_sub rfl rfl rfl (sd rfl (yl_assign rfl rfl (dn (CW.region (sd rfl (yl_move rfl rfl ?_)))))))))))
    refine sd rfl (yl_loadN ty34 rfl rfl (hf121.cells (n := 3) rfl) rfl (sd rfl (yl_move rfl rfl (sd rfl (yl_move rfl rfl (sd rfl (yl_call en140 rfl (oc rfl (oc rfl (oc rfl oz))) (Cal.mono (c_i_Table_withStage p_t p_name (IntKind.wrap .i64 (x92 - 1)) (RdS.up hf122 good_Str) (RdS.up hf123 good_Idx) o3 o4 (by first | omega | assumption | (simp only [wI] at *; omega))) ?_))))))))
    rintro v179 w175 ⟨A176, c176, lo176, hi176, A177, c177, lo177, hi177, rfl, h176, h177, ho178, hrn181, hrn182, hrn183, hE180⟩
    have hE180z := Ex.size hE180
    refine sd rfl (yl_buildSlice (cs := [.string (bs ((i_Table_withStage p_t p_name (IntKind.wrap .i64 (x92 - 1))).Name)), .slice A176 (((i_Table_withStage p_t p_name (IntKind.wrap .i64 (x92 - 1))).Cols).length) c176, .slice A177 (((i_Table_withStage p_t p_name (IntKind.wrap .i64 (x92 - 1))).Idxs).length) c177]) un56 ty34 (by decide) rfl (oc rfl oz) (by kernel_rfl) ?_)
    intro b184 w185 hs186 hz187 hB188 hE189
    have hO190 : OwnD w185 w112.heap.size (b184 + 1) 34 3 RO_Table (some ⟨b184, 0, none⟩) 1 1 ([(i_Table_withStage p_t p_name (IntKind.wrap .i64 (x92 - 1)))] : List DTable) := OwnD.of_box (b := b184) (xs := ([(i_Table_withStage p_t p_name (IntKind.wrap .i64 (x92 - 1)))] : List DTable)) (cells := [[.string (bs ((i_Table_withStage p_t p_name (IntKind.wrap .i64 (x92 - 1))).Name)), .slice A176 (((i_Table_withStage p_t p_name (IntKind.wrap .i64 (x92 - 1))).Cols).length) c176, .slice A177 (((i_Table_withStage p_t p_name (IntKind.wrap .i64 (x92 - 1))).Idxs).length) c177]]) (by rw [List.flatten_singleton]; exact hB188) (by omega) (Nat.lt_succ_self _) (.cons (l := w112.heap.size) (h := b184) (Nat.le_refl _) (by omega) rfl (fun k hk => by cases hk; exact .inr (Nat.le_refl _)) (mkO_Table (l := w112.heap.size) (h := b184) (OwnL.ex good_Str h176 hE189) (OwnL.ex good_Idx h177 hE189) (by omega) (by omega) (by omega)) (.nil (Nat.le_succ _))) (Nat.le_of_ble_eq_true rfl)
    refine sd rfl (yl_appendD (xs := x93) (ys := ([(i_Table_withStage p_t p_name (IntKind.wrap .i64 (x92 - 1)))] : List DTable)) goodO_Table un56 ty34 rfl (Nat.le_of_ble_eq_true rfl) rfl rfl rfl (OwnD.ex goodO_Table (OwnD.ex goodO_Table hf124 hE180) hE189) hO190 (by first | omega | (simp only [List.length_append, List.length_cons, List.length_nil, List.length_take, List.length_drop, List.length_replicate, List.length_set, toS_length]; omega)) (by first | omega | (simp only [List.length_append, List.length_cons, List.length_nil, List.length_take, List.length_drop, List.length_replicate, List.length_set, toS_length]; omega)) (by omega) (by omega) (by omega) (by omega) ?_)
    intro A193 c194 w195 row196 hO197 hG198 hrg199
    have hG198z := hG198.size
    refine sd rfl (yl_assign rfl rfl (SeqR.done (bn (tn ?_))))
    have hB200 : B_i_Table_wayTo_0 p_t p_name p_stage (x92, x93) = .cont (IntKind.wrap .i64 (x92 - 1), (x93 ++ ([(i_Table_withStage p_t p_name (IntKind.wrap .i64 (x92 - 1)))] : List DTable))) := by simp only [B_i_Table_wayTo_0, hb131, hb135, cL]
    have hmu213 : ((p_stage - IntKind.wrap .i64 (x92 - 1)).toNat + (IntKind.wrap .i64 (x92 - 1) - p_stage).toNat) < ((p_stage - x92).toNat + (x92 - p_stage).toNat) := by first | omega | assumption | (simp only [wI] at *; omega)
    exact ⟨m110 - 1, by omega, IntKind.wrap .i64 (x92 - 1), (x93 ++ ([(i_Table_withStage p_t p_name (IntKind.wrap .i64 (x92 - 1)))] : List DTable)), A193, c194, w195.heap.size, (by omega), (by omega), rfl, rfl, rfl, rfl, rfl, (Box.grown (Box.ex (Box.ex hf121 hE180) hE189) hG198 (fun k hk => by have := hrg199 k hk; omega)), (RdS.grown good_Str (RdS.ex good_Str (RdS.ex good_Str hf122 hE180) hE189) hG198 (fun k hk => by have := hrg199 k hk; simp only [Iv]; omega)), (RdS.grown good_Idx (RdS.ex good_Idx (RdS.ex good_Idx hf123 hE180) hE189) hG198 (fun k hk => by have := hrg199 k hk; simp only [Iv]; omega)), hO197, (Below.grown (Ex.trans (Ex.trans hf125 hE180) hE189) hG198 (by omega) (fun k hk => by have := hrg199 k hk; omega)), (by omega), (by first | omega | (simp only [List.length_append, List.length_cons, List.length_nil, List.length_set, toS_length]; omega)), (okE.append hok128 ((okL.mk (Nat.le_of_ble_eq_true rfl) (okE.cons ho178 okE.nil))).2), (by first | omega | assumption | (simp only [wI] at *; omega)), (by first | omega | assumption | (simp only [wI] at *; omega)), (loopW.cont hk113 hB200).symm.trans hI114⟩
theorem c_i_Shift_stageOf {A1 : Option Addr} {c1 : Nat} {A2 : Option Addr} {c2 : Nat} {A3 : Option Addr} {c3 : Nat} {A5 : Option Addr} {c5 : Nat} {A6 : Option Addr} {c6 : Nat} {w : World} (p_c : DShift) (p_t : DTable) (h1 : RdS w (Iv 0 w.heap.size) R_Table 3 A1 p_c.Ways.length c1 p_c.Ways) (h2 : RdS w (Iv 0 w.heap.size) (RF e_Int) 1 A2 p_c.At.length c2 p_c.At) (h3 : RdS w (Iv 0 w.heap.size) (RF e_Write) 3 A3 p_c.Store.length c3 p_c.Store) (h5 : RdS w (Iv 0 w.heap.size) (RF e_Str) 1 A5 p_t.Cols.length c5 p_t.Cols) (h6 : RdS w (Iv 0 w.heap.size) (RF e_Idx) 3 A6 p_t.Idxs.length c6 p_t.Idxs) (o4 : ok_Shift p_c) (o7 : ok_Table p_t) (pre0 : (0 ≤ i_Table_findIdx p_t p_c.Name ∧ i_Table_findIdx p_t p_c.Name < (p_t.Idxs.length : Int))) : Cal Tryz.prog 117 #[.agg #[.string (bs (p_c.Name)), .slice A1 p_c.Ways.length c1, .slice A2 p_c.At.length c2, .slice A3 p_c.Store.length c3], .agg #[.string (bs (p_t.Name)), .slice A5 p_t.Cols.length c5, .slice A6 p_t.Idxs.length c6]] w fun v w' => v = .int .i64 ((i_Shift_stageOf p_c p_t)) ∧ Ex w w' := by
 have hol8 : p_c.Name.length ≤ 1073741824 := o4.1
 have hol9 := o4.2.1.1
 have hol10 := o4.2.2.1.1
 have hol11 := o4.2.2.2.1
 have hol12 : p_t.Name.length ≤ 1073741824 := o7.1
 have hol13 := o7.2.1.1
 have hol14 := o7.2.2.1
 refine Cal.of func117 rfl ntmps117 rfl (CW.seq (CW.region (sd rfl (yl_box rfl rfl rfl ?_))))
 intro b15 w16 hs17 hz18 hB19 hE20
 refine sd rfl (yl_box rfl rfl rfl ?_)
 intro b21 w22 hs23 hz24 hB25 hE26
 refine sd rfl (yl_assign rfl rfl (dn (CW.seq (CW.region (sd rfl (yl_loadN ty34 rfl rfl (hB25.cells (n := 3) rfl) rfl (sd rfl (yl_fieldAddr fd58_0 rfl rfl (sd rfl (yl_load1 ty9 rfl rfl (((Box.ex hB19 hE26).cell 0).trans rfl) (sd rfl (yl_call en91 rfl (oc rfl (oc rfl oz)) (Cal.mono (c_i_Table_idx p_t p_c.Name (RdS.up (RdS.ex good_Str (RdS.ex good_Str h5 hE20) hE26) good_Str) (RdS.up (RdS.ex good_Idx (RdS.ex good_Idx h6 hE20) hE26) good_Idx) o7 o4.1 (by first | omega | assumption | (simp only [wI] at *; omega))) ?_)))))))))))))
 rintro v34 w32 ⟨rfl, ho33, hE35⟩
 have hE35z := Ex.size hE35
 refine sd rfl (yl_field1 fd104_2 rfl rfl rfl (sd rfl (yl_assign rfl rfl (dn (CW.ret (rr rfl (.cons rfl .nil) ?_))))))
 have hM36 : (i_Shift_stageOf p_c p_t) = ((i_Table_idx p_t p_c.Name).Stage) := by simp only [i_Shift_stageOf, cL]
 rw [hM36]
 exact ⟨rfl, (Ex.trans (Ex.trans (Ex.trans (Ex.refl w) hE20) hE26) hE35)⟩
theorem c_g_slices_Equal_string {A1 : Option Addr} {c1 : Nat} {A3 : Option Addr} {c3 : Nat} {w : World} (p_s1 : List Str) (p_s2 : List Str) (h1 : RdS w (Iv 0 w.heap.size) (RF e_Str) 1 A1 p_s1.length c1 p_s1) (h3 : RdS w (Iv 0 w.heap.size) (RF e_Str) 1 A3 p_s2.length c3 p_s2) (o2 : (okL okS) p_s1) (o4 : (okL okS) p_s2) : Cal Tryz.prog 141 #[.slice A1 p_s1.length c1, .slice A3 p_s2.length c3] w fun v w' => v = .bool ((g_slices_Equal_string p_s1 p_s2)) ∧ Ex w w' := by
 have hol5 := o2.1
 have hol6 := o4.1
 refine Cal.of func141 rfl ntmps141 rfl (CW.seq (CW.region (sd rfl (yl_assign rfl rfl (dn (CW.seq (CW.seq (CW.region ?_))))))))
 refine sd rfl (yl_move rfl rfl (sd rfl (yl_len un22 rfl rfl (sd rfl (yl_move rfl rfl (sd rfl (yl_len un22 rfl rfl (sd rfl (yl_neq rfl rfl rfl (dn (bcase (decide ((p_s1.length : Int) = (p_s2.length : Int))) (fun hb7 => ?_) (fun hb7 => ?_))))))))))))
 ·have hb7p := dec_t hb7
  refine CW.cond_f rfl (not_t hb7) (CW.skip (tn (CW.seq (CW.seq (CW.region (sd rfl (yl_move rfl rfl (sd rfl (yl_len un22 rfl rfl (sd rfl (yl_move rfl rfl ?_)))))))))))
  refine dn (CW.block (CW.loop (fun m9 L10 w11 => ∃ (k8 : Nat), m9 = p_s1.length - k8 ∧ k8 ≤ p_s1.length ∧ w.heap.size ≤ w11.heap.size ∧ lkp L10 0 = some (.slice A1 p_s1.length c1) ∧ lkp L10 1 = some (.slice A3 p_s2.length c3) ∧ lkp L10 12 = some (.int .i64 ((p_s1.length : Int))) ∧ lkp L10 13 = some (.int .i64 ((k8 : Int))) ∧ RdS w11 (Iv 0 w.heap.size) (RF e_Str) 1 A1 p_s1.length c1 p_s1 ∧ RdS w11 (Iv 0 w.heap.size) (RF e_Str) 1 A3 p_s2.length c3 p_s2 ∧ Ex w w11 ∧ loopM (B_g_slices_Equal_string_0 p_s1 p_s2) (p_s1.length - k8) k8 () = loopM (B_g_slices_Equal_string_0 p_s1 p_s2) (p_s1.length - 0) 0 ()) (p_s1.length - 0) ?_ ?_))
  ·exact ⟨0, rfl, (by omega), Nat.le_refl _, rfl, rfl, rfl, rfl, h1, h3, (Ex.refl w), rfl⟩
  ·rintro m12 L13 w14 ⟨k8, rfl, hk15, hsz17, hl18, hl19, hl20, hl21, hf22, hf23, hf24, hI16⟩
   refine CW.sub (Sub.cons hl18 (Sub.cons hl19 (Sub.cons hl20 (Sub.cons hl21 (Sub.nil _))))) ?_
   have hf24z := Ex.size hf24
   have hbg25 := RdS.big hf22
   rcases Nat.lt_or_ge k8 p_s1.length with hlt26 | hlt26
   ·refine CW.seq (CW.region (sd rfl (yl_lss rfl rfl rfl (dn (CW.seq (CW.cond_t rfl (lt_t hlt26) (CW.skip (tn ?_))))))))
    refine CW.seq (CW.block (CW.seq (CW.region (sd rfl (yl_move rfl rfl (sd rfl (yl_assign rfl rfl (dn (CW.seq ?_)))))))))
    obtain ⟨eb27, eo27, _, eA27, _, ebl27, _, eR27, eC27⟩ := RdS.aD hf22 d_Str (i := k8)
    obtain rfl := eR27
    have eC27 : Cells w14 eb27 (eo27 + k8 * 1) [.string (bs ((p_s1.getD k8 d_Str)))] := eC27
    obtain ⟨eb28, eo28, _, eA28, _, ebl28, _, eR28, eC28⟩ := RdS.aD hf23 d_Str (i := k8)
    obtain rfl := eR28
    have eC28 : Cells w14 eb28 (eo28 + k8 * 1) [.string (bs ((p_s2.getD k8 d_Str)))] := eC28
    refine CW.drawsI 9 (vgetI ([.slice A1 p_s1.length c1, .int .i64 ((k8 : Int)), .pointer (some ⟨eb27, eo27 + k8 * 1, none⟩), .string (bs ((p_s1.getD k8 d_Str))), .slice A3 p_s2.length c3, .int .i64 ((k8 : Int)), .pointer (some ⟨eb28, eo28 + k8 * 1, none⟩), .string (bs ((p_s2.getD k8 d_Str))), .bool (!((p_s1.getD k8 d_Str) == (p_s2.getD k8 d_Str)))].map DetI)) Tryz.follows rfl rfl rfl rfl rfl rfl (vgetI_stable (stD _)) ⟨?_, ?_, ?_, ?_, ?_, ?_, ?_, ?_, ?_, trivial⟩ ?_
    ·exact oI rfl fun h => yl_move rfl (h.old 0 _ rfl rfl) kI
    ·exact oI rfl fun h => yl_move rfl (h.old 5 _ rfl rfl) kI
    ·intro L39 w40 hi41
     have hE42 := hi41.ex
     have hE42z := Ex.size hE42
     exact os rfl ((yl_ixN un22 ty9 rfl (hi41.dt 0 16 rfl rfl rfl) (hi41.dt 1 17 rfl rfl rfl) eA27 kI))
    ·exact oI rfl fun h => yl_load1 ty9 rfl (h.dt 2 18 rfl rfl rfl) ((Cells.ex eC27 h.ex) 0 _ rfl) kI
    ·exact oI rfl fun h => yl_move rfl (h.old 1 _ rfl rfl) kI
    ·exact oI rfl fun h => yl_move rfl (h.old 5 _ rfl rfl) kI
    ·intro L61 w62 hi63
     have hE64 := hi63.ex
     have hE64z := Ex.size hE64
     exact os rfl ((yl_ixN un22 ty9 rfl (hi63.dt 4 20 rfl rfl rfl) (hi63.dt 5 21 rfl rfl rfl) eA28 kI))
    ·exact oI rfl fun h => yl_load1 ty9 rfl (h.dt 6 22 rfl rfl rfl) ((Cells.ex eC28 h.ex) 0 _ rfl) kI
    ·exact oI rfl fun h => yl_sneq (a := (p_s1.getD k8 d_Str)) (b := (p_s2.getD k8 d_Str)) rfl (h.dt 3 19 rfl rfl rfl) (h.dt 7 23 rfl rfl rfl) kI
    ·intro fl82 fh83 L79 w80 hp81
     have hE84 := hp81.ex
     have hE84z := Ex.size hE84
     refine dn (CW.sub (Sub.cons (d := 0) (hp81.old 0 _ rfl rfl) (Sub.cons (d := 1) (hp81.old 1 _ rfl rfl) (Sub.cons (d := 12) (hp81.old 12 _ rfl rfl) (Sub.cons (d := 13) (hp81.old 13 _ rfl rfl) (Sub.cons (d := 24) (hp81.nt 8 24 rfl rfl rfl) (Sub.nil _)))))) (bcase ((p_s1.getD k8 d_Str) == (p_s2.getD k8 d_Str)) (fun hb90 => ?_) (fun hb90 => ?_)))
     ·refine CW.cond_f rfl (not_t hb90) (CW.skip (bn (tn (CW.region (sd rfl (yl_inc rfl rfl rfl (by omega) (sd rfl (yl_move rfl rfl (dn ?_)))))))))
      have hB91 : B_g_slices_Equal_string_0 p_s1 p_s2 k8 () = .cont () := by simp only [B_g_slices_Equal_string_0, hb7, hb90, cL]
      exact ⟨p_s1.length - (k8 + 1), by omega, k8 + 1, rfl, hlt26, (by omega), rfl, rfl, rfl, rfl, (RdS.ex good_Str hf22 hE84), (RdS.ex good_Str hf23 hE84), (Ex.trans hf24 hE84), (loopM.cont hlt26 hB91).symm.trans hI16⟩
     ·refine CW.cond_t rfl (not_f hb90) (CW.seq (CW.region (sd rfl (yl_assign rfl rfl (dn (CW.ret (br (tr ?_))))))))
      refine tr ?_
      have hB96 : B_g_slices_Equal_string_0 p_s1 p_s2 k8 () = .ret false := by simp only [B_g_slices_Equal_string_0, hb7, hb90, cL]
      have hL95 : loopM (B_g_slices_Equal_string_0 p_s1 p_s2) (p_s1.length - 0) 0 () = .ret false := hI16.symm.trans (loopM.ret hlt26 hB96)
      refine br (tr (rr rfl (.cons rfl .nil) ?_))
      have hM97 : (g_slices_Equal_string p_s1 p_s2) = (false) := by simp only [g_slices_Equal_string, hb7, hb90, hL95, cL]
      rw [hM97]
      exact ⟨rfl, (Ex.trans hf24 hE84)⟩
   ·refine CW.seq (CW.region (sd rfl (yl_lss rfl rfl rfl (dn (CW.seq (CW.cond_f rfl (lt_f hlt26) (CW.exit (tx ?_))))))))
    refine tx ?_
    have hL99 : loopM (B_g_slices_Equal_string_0 p_s1 p_s2) (p_s1.length - 0) 0 () = .done () := hI16.symm.trans (loopM.stop hlt26)
    refine bx (tn (CW.seq (CW.region (sd rfl (yl_assign rfl rfl (dn (CW.ret (rr rfl (.cons rfl .nil) ?_))))))))
    have hM100 : (g_slices_Equal_string p_s1 p_s2) = (true) := by simp only [g_slices_Equal_string, hb7, hL99, cL]
    rw [hM100]
    exact ⟨rfl, hf24⟩
 ·have hb7p := dec_f hb7
  refine CW.cond_t rfl (not_f hb7) (CW.seq (CW.region (sd rfl (yl_assign rfl rfl (dn (CW.ret (tr (rr rfl (.cons rfl .nil) ?_))))))))
  have hM101 : (g_slices_Equal_string p_s1 p_s2) = (false) := by simp only [g_slices_Equal_string, hb7, cL]
  rw [hM101]
  exact ⟨rfl, (Ex.refl w)⟩
theorem c_g_slices_Equal_Idx {A1 : Option Addr} {c1 : Nat} {A3 : Option Addr} {c3 : Nat} {w : World} (p_s1 : List DIdx) (p_s2 : List DIdx) (h1 : RdS w (Iv 0 w.heap.size) (RF e_Idx) 3 A1 p_s1.length c1 p_s1) (h3 : RdS w (Iv 0 w.heap.size) (RF e_Idx) 3 A3 p_s2.length c3 p_s2) (o2 : (okL ok_Idx) p_s1) (o4 : (okL ok_Idx) p_s2) : Cal Tryz.prog 142 #[.slice A1 p_s1.length c1, .slice A3 p_s2.length c3] w fun v w' => v = .bool ((g_slices_Equal_Idx p_s1 p_s2)) ∧ Ex w w' := by
 have hol5 := o2.1
 have hol6 := o4.1
 refine Cal.of func142 rfl ntmps142 rfl (CW.seq (CW.region (sd rfl (yl_assign rfl rfl (dn (CW.seq (CW.seq (CW.region ?_))))))))
 refine sd rfl (yl_move rfl rfl (sd rfl (yl_len un32 rfl rfl (sd rfl (yl_move rfl rfl (sd rfl (yl_len un32 rfl rfl (sd rfl (yl_neq rfl rfl rfl (dn (bcase (decide ((p_s1.length : Int) = (p_s2.length : Int))) (fun hb7 => ?_) (fun hb7 => ?_))))))))))))
 ·have hb7p := dec_t hb7
  refine CW.cond_f rfl (not_t hb7) (CW.skip (tn (CW.seq (CW.seq (CW.region (sd rfl (yl_move rfl rfl (sd rfl (yl_len un32 rfl rfl (sd rfl (yl_move rfl rfl ?_)))))))))))
  refine dn (CW.block (CW.loop (fun m9 L10 w11 => ∃ (k8 : Nat), m9 = p_s1.length - k8 ∧ k8 ≤ p_s1.length ∧ w.heap.size ≤ w11.heap.size ∧ lkp L10 0 = some (.slice A1 p_s1.length c1) ∧ lkp L10 1 = some (.slice A3 p_s2.length c3) ∧ lkp L10 12 = some (.int .i64 ((p_s1.length : Int))) ∧ lkp L10 13 = some (.int .i64 ((k8 : Int))) ∧ RdS w11 (Iv 0 w.heap.size) (RF e_Idx) 3 A1 p_s1.length c1 p_s1 ∧ RdS w11 (Iv 0 w.heap.size) (RF e_Idx) 3 A3 p_s2.length c3 p_s2 ∧ Ex w w11 ∧ loopM (B_g_slices_Equal_Idx_0 p_s1 p_s2) (p_s1.length - k8) k8 () = loopM (B_g_slices_Equal_Idx_0 p_s1 p_s2) (p_s1.length - 0) 0 ()) (p_s1.length - 0) ?_ ?_))
  ·exact ⟨0, rfl, (by omega), Nat.le_refl _, rfl, rfl, rfl, rfl, h1, h3, (Ex.refl w), rfl⟩
  ·rintro m12 L13 w14 ⟨k8, rfl, hk15, hsz17, hl18, hl19, hl20, hl21, hf22, hf23, hf24, hI16⟩
   refine CW.sub (Sub.cons hl18 (Sub.cons hl19 (Sub.cons hl20 (Sub.cons hl21 (Sub.nil _))))) ?_
   have hf24z := Ex.size hf24
   have hbg25 := RdS.big hf22
   rcases Nat.lt_or_ge k8 p_s1.length with hlt26 | hlt26
   ·refine CW.seq (CW.region (sd rfl (yl_lss rfl rfl rfl (dn (CW.seq (CW.cond_t rfl (lt_t hlt26) (CW.skip (tn ?_))))))))
    refine CW.seq (CW.block (CW.seq (CW.region (sd rfl (yl_move rfl rfl (sd rfl (yl_assign rfl rfl (dn (CW.seq ?_)))))))))
    obtain ⟨eb27, eo27, _, eA27, _, ebl27, _, eR27, eC27⟩ := RdS.aD hf22 d_Idx (i := k8)
    obtain rfl := eR27
    have eC27 : Cells w14 eb27 (eo27 + k8 * 3) [.string (bs ((p_s1.getD k8 d_Idx).Name)), .int .i64 ((p_s1.getD k8 d_Idx).Col), .int .i64 ((p_s1.getD k8 d_Idx).Stage)] := eC27
    obtain ⟨eb28, eo28, _, eA28, _, ebl28, _, eR28, eC28⟩ := RdS.aD hf23 d_Idx (i := k8)
    obtain rfl := eR28
    have eC28 : Cells w14 eb28 (eo28 + k8 * 3) [.string (bs ((p_s2.getD k8 d_Idx).Name)), .int .i64 ((p_s2.getD k8 d_Idx).Col), .int .i64 ((p_s2.getD k8 d_Idx).Stage)] := eC28
    refine CW.drawsI 9 (vgetI ([.slice A1 p_s1.length c1, .int .i64 ((k8 : Int)), .pointer (some ⟨eb27, eo27 + k8 * 3, none⟩), .agg #[.string (bs ((p_s1.getD k8 d_Idx).Name)), .int .i64 ((p_s1.getD k8 d_Idx).Col), .int .i64 ((p_s1.getD k8 d_Idx).Stage)], .slice A3 p_s2.length c3, .int .i64 ((k8 : Int)), .pointer (some ⟨eb28, eo28 + k8 * 3, none⟩), .agg #[.string (bs ((p_s2.getD k8 d_Idx).Name)), .int .i64 ((p_s2.getD k8 d_Idx).Col), .int .i64 ((p_s2.getD k8 d_Idx).Stage)], .bool (!((((p_s1.getD k8 d_Idx).Name) == ((p_s2.getD k8 d_Idx).Name)) && ((decide (((p_s1.getD k8 d_Idx).Col) = ((p_s2.getD k8 d_Idx).Col))) && (decide (((p_s1.getD k8 d_Idx).Stage) = ((p_s2.getD k8 d_Idx).Stage))))))].map DetI)) Tryz.follows rfl rfl rfl rfl rfl rfl (vgetI_stable (stD _)) ⟨?_, ?_, ?_, ?_, ?_, ?_, ?_, ?_, ?_, trivial⟩ ?_
    ·exact oI rfl fun h => yl_move rfl (h.old 0 _ rfl rfl) kI
    ·exact oI rfl fun h => yl_move rfl (h.old 5 _ rfl rfl) kI
    ·intro L39 w40 hi41
     have hE42 := hi41.ex
     have hE42z := Ex.size hE42
     exact os rfl ((yl_ixN un32 ty104 rfl (hi41.dt 0 16 rfl rfl rfl) (hi41.dt 1 17 rfl rfl rfl) eA27 kI))
    ·exact oI rfl fun h => yl_loadN ty104 rfl (h.dt 2 18 rfl rfl rfl) (Cells.ex eC27 h.ex) rfl kI
    ·exact oI rfl fun h => yl_move rfl (h.old 1 _ rfl rfl) kI
    ·exact oI rfl fun h => yl_move rfl (h.old 5 _ rfl rfl) kI
    ·intro L61 w62 hi63
     have hE64 := hi63.ex
     have hE64z := Ex.size hE64
     exact os rfl ((yl_ixN un32 ty104 rfl (hi63.dt 4 20 rfl rfl rfl) (hi63.dt 5 21 rfl rfl rfl) eA28 kI))
    ·exact oI rfl fun h => yl_loadN ty104 rfl (h.dt 6 22 rfl rfl rfl) (Cells.ex eC28 h.ex) rfl kI
    ·exact oI rfl fun h => yl_aneq (xs := [.string (bs ((p_s1.getD k8 d_Idx).Name)), .int .i64 ((p_s1.getD k8 d_Idx).Col), .int .i64 ((p_s1.getD k8 d_Idx).Stage)]) (ys := [.string (bs ((p_s2.getD k8 d_Idx).Name)), .int .i64 ((p_s2.getD k8 d_Idx).Col), .int .i64 ((p_s2.getD k8 d_Idx).Stage)]) Tryz.ae104 rfl (h.dt 3 19 rfl rfl rfl) (h.dt 7 23 rfl rfl rfl) kI
    ·intro fl82 fh83 L79 w80 hp81
     have hE84 := hp81.ex
     have hE84z := Ex.size hE84
     refine dn (CW.sub (Sub.cons (d := 0) (hp81.old 0 _ rfl rfl) (Sub.cons (d := 1) (hp81.old 1 _ rfl rfl) (Sub.cons (d := 12) (hp81.old 12 _ rfl rfl) (Sub.cons (d := 13) (hp81.old 13 _ rfl rfl) (Sub.cons (d := 24) (hp81.nt 8 24 rfl rfl rfl) (Sub.nil _)))))) (bcase ((((p_s1.getD k8 d_Idx).Name) == ((p_s2.getD k8 d_Idx).Name)) && ((decide (((p_s1.getD k8 d_Idx).Col) = ((p_s2.getD k8 d_Idx).Col))) && (decide (((p_s1.getD k8 d_Idx).Stage) = ((p_s2.getD k8 d_Idx).Stage))))) (fun hb90 => ?_) (fun hb90 => ?_)))
     ·refine CW.cond_f rfl (not_t hb90) (CW.skip (bn (tn (CW.region (sd rfl (yl_inc rfl rfl rfl (by omega) (sd rfl (yl_move rfl rfl (dn ?_)))))))))
      have hB91 : B_g_slices_Equal_Idx_0 p_s1 p_s2 k8 () = .cont () := by simp only [B_g_slices_Equal_Idx_0, hb7, hb90, cL]
      exact ⟨p_s1.length - (k8 + 1), by omega, k8 + 1, rfl, hlt26, (by omega), rfl, rfl, rfl, rfl, (RdS.ex good_Idx hf22 hE84), (RdS.ex good_Idx hf23 hE84), (Ex.trans hf24 hE84), (loopM.cont hlt26 hB91).symm.trans hI16⟩
     ·refine CW.cond_t rfl (not_f hb90) (CW.seq (CW.region (sd rfl (yl_assign rfl rfl (dn (CW.ret (br (tr ?_))))))))
      refine tr ?_
      have hB96 : B_g_slices_Equal_Idx_0 p_s1 p_s2 k8 () = .ret false := by simp only [B_g_slices_Equal_Idx_0, hb7, hb90, cL]
      have hL95 : loopM (B_g_slices_Equal_Idx_0 p_s1 p_s2) (p_s1.length - 0) 0 () = .ret false := hI16.symm.trans (loopM.ret hlt26 hB96)
      refine br (tr (rr rfl (.cons rfl .nil) ?_))
      have hM97 : (g_slices_Equal_Idx p_s1 p_s2) = (false) := by simp only [g_slices_Equal_Idx, hb7, hb90, hL95, cL]
      rw [hM97]
      exact ⟨rfl, (Ex.trans hf24 hE84)⟩
   ·refine CW.seq (CW.region (sd rfl (yl_lss rfl rfl rfl (dn (CW.seq (CW.cond_f rfl (lt_f hlt26) (CW.exit (tx ?_))))))))
    refine tx ?_
    have hL99 : loopM (B_g_slices_Equal_Idx_0 p_s1 p_s2) (p_s1.length - 0) 0 () = .done () := hI16.symm.trans (loopM.stop hlt26)
    refine bx (tn (CW.seq (CW.region (sd rfl (yl_assign rfl rfl (dn (CW.ret (rr rfl (.cons rfl .nil) ?_))))))))
    have hM100 : (g_slices_Equal_Idx p_s1 p_s2) = (true) := by simp only [g_slices_Equal_Idx, hb7, hL99, cL]
    rw [hM100]
    exact ⟨rfl, hf24⟩
 ·have hb7p := dec_f hb7
  refine CW.cond_t rfl (not_f hb7) (CW.seq (CW.region (sd rfl (yl_assign rfl rfl (dn (CW.ret (tr (rr rfl (.cons rfl .nil) ?_))))))))
  have hM101 : (g_slices_Equal_Idx p_s1 p_s2) = (false) := by simp only [g_slices_Equal_Idx, hb7, cL]
  rw [hM101]
  exact ⟨rfl, (Ex.refl w)⟩
theorem c_i_sameTable {A1 : Option Addr} {c1 : Nat} {A2 : Option Addr} {c2 : Nat} {A4 : Option Addr} {c4 : Nat} {A5 : Option Addr} {c5 : Nat} {w : World} (p_a : DTable) (p_b : DTable) (h1 : RdS w (Iv 0 w.heap.size) (RF e_Str) 1 A1 p_a.Cols.length c1 p_a.Cols) (h2 : RdS w (Iv 0 w.heap.size) (RF e_Idx) 3 A2 p_a.Idxs.length c2 p_a.Idxs) (h4 : RdS w (Iv 0 w.heap.size) (RF e_Str) 1 A4 p_b.Cols.length c4 p_b.Cols) (h5 : RdS w (Iv 0 w.heap.size) (RF e_Idx) 3 A5 p_b.Idxs.length c5 p_b.Idxs) (o3 : ok_Table p_a) (o6 : ok_Table p_b) : Cal Tryz.prog 118 #[.agg #[.string (bs (p_a.Name)), .slice A1 p_a.Cols.length c1, .slice A2 p_a.Idxs.length c2], .agg #[.string (bs (p_b.Name)), .slice A4 p_b.Cols.length c4, .slice A5 p_b.Idxs.length c5]] w fun v w' => v = .bool ((i_sameTable p_a p_b)) ∧ Ex w w' := by
 refine Cal.of func118 rfl ntmps118 rfl (CW.seq (CW.region (sd rfl (yl_box rfl rfl rfl ?_))))
 intro b13 w14 hs15 hz16 hB17 hE18
 refine sd rfl (yl_box rfl rfl rfl ?_)
 intro b19 w20 hs21 hz22 hB23 hE24
 refine sd rfl (yl_assign rfl rfl (dn (CW.seq (CW.region (sd rfl (yl_fieldAddr fd34_0 rfl rfl ?_))))))
 have q25 := Box.ex hB17 hE24
 refine sd rfl (yl_load1 ty9 rfl rfl ((q25.cell 0).trans rfl) (sd rfl (yl_fieldAddr fd34_0 rfl rfl (sd rfl (yl_load1 ty9 rfl rfl ((hB23.cell 0).trans rfl) (sd rfl (yl_seql (a := p_a.Name) (b := p_b.Name) rfl rfl rfl (sd rfl (yl_move rfl rfl (bcase (p_a.Name == p_b.Name) (fun hb26 => ?_) (fun hb26 => ?_)))))))))))
 ·refine sy rfl rfl hb26 (yl_fieldAddr fd34_1 rfl rfl (sy rfl rfl hb26 (yl_load1 ty22 rfl rfl ((q25.cell 1).trans rfl) (sy rfl rfl hb26 (yl_fieldAddr fd34_1 rfl rfl (sy rfl rfl hb26 (yl_load1 ty22 rfl rfl ((hB23.cell 1).trans rfl) (sy rfl rfl hb26 (yl_call en141 rfl (oc rfl (oc rfl oz)) (Cal.mono (c_g_slices_Equal_string p_a.Cols p_b.Cols (RdS.up (RdS.ex good_Str (RdS.ex good_Str h1 hE18) hE24) good_Str) (RdS.up (RdS.ex good_Str (RdS.ex good_Str h4 hE18) hE24) good_Str) o3.2.1 o6.2.1) ?_))))))))))
  rintro v32 w31 ⟨rfl, hE33⟩
  refine sd rfl (yl_pick_t rfl rfl hb26 rfl (sd rfl (yl_move rfl rfl (bcase (g_slices_Equal_string p_a.Cols p_b.Cols) (fun hb34 => ?_) (fun hb34 => ?_)))))
  ·refine sy rfl rfl hb34 (yl_fieldAddr fd34_2 rfl rfl (sy rfl rfl hb34 (yl_load1 ty32 rfl rfl (((Box.ex q25 hE33).cell 2).trans rfl) (sy rfl rfl hb34 (yl_fieldAddr fd34_2 rfl rfl (sy rfl rfl hb34 (yl_load1 ty32 rfl rfl (((Box.ex hB23 hE33).cell 2).trans rfl) (sy rfl rfl hb34 (yl_call en142 rfl (oc rfl (oc rfl oz)) (Cal.mono (c_g_slices_Equal_Idx p_a.Idxs p_b.Idxs (RdS.up (RdS.ex good_Idx (RdS.ex good_Idx (RdS.ex good_Idx h2 hE18) hE24) hE33) good_Idx) (RdS.up (RdS.ex good_Idx (RdS.ex good_Idx (RdS.ex good_Idx h5 hE18) hE24) hE33) good_Idx) o3.2.2 o6.2.2) ?_))))))))))
   rintro v44 w43 ⟨rfl, hE45⟩
   refine sd rfl (yl_pick_t rfl rfl hb34 rfl (sd rfl (yl_assign rfl rfl (dn (CW.ret (rr rfl (.cons rfl .nil) ?_))))))
   have hM46 : (i_sameTable p_a p_b) = ((g_slices_Equal_Idx p_a.Idxs p_b.Idxs)) := by simp only [i_sameTable, hb26, hb34, cL]
   rw [hM46]
   exact ⟨rfl, (Ex.trans (Ex.trans (Ex.trans (Ex.trans (Ex.refl w) hE18) hE24) hE33) hE45)⟩
  ·refine sz rfl rfl hb34 (sz rfl rfl hb34 (sz rfl rfl hb34 (sz rfl rfl hb34 (sz rfl rfl hb34 (sd rfl (yl_pick_f rfl rfl hb34 rfl (sd rfl (yl_assign rfl rfl (dn ?_)))))))))
   refine CW.ret (rr rfl (.cons rfl .nil) ?_)
   have hM51 : (i_sameTable p_a p_b) = (false) := by simp only [i_sameTable, hb26, hb34, cL]
   rw [hM51]
   exact ⟨rfl, (Ex.trans (Ex.trans (Ex.trans (Ex.refl w) hE18) hE24) hE33)⟩
 ·refine sz rfl rfl hb26 (sz rfl rfl hb26 (sz rfl rfl hb26 (sz rfl rfl hb26 (sz rfl rfl hb26 (sd rfl (yl_pick_f rfl rfl hb26 rfl (sd rfl (yl_move rfl rfl (sz rfl rfl rfl (sz rfl rfl rfl ?_))))))))))
  refine sz rfl rfl rfl (sz rfl rfl rfl (sz rfl rfl rfl (sd rfl (yl_pick_f rfl rfl rfl rfl (sd rfl (yl_assign rfl rfl (dn (CW.ret (rr rfl (.cons rfl .nil) ?_)))))))))
  have hM55 : (i_sameTable p_a p_b) = (false) := by simp only [i_sameTable, hb26, cL]
  rw [hM55]
  exact ⟨rfl, (Ex.trans (Ex.trans (Ex.refl w) hE18) hE24)⟩
theorem c_i_GoodShift {A1 : Option Addr} {c1 : Nat} {A2 : Option Addr} {c2 : Nat} {A3 : Option Addr} {c3 : Nat} {w : World} (p_c : DShift) (h1 : RdS w (Iv 0 w.heap.size) R_Table 3 A1 p_c.Ways.length c1 p_c.Ways) (h2 : RdS w (Iv 0 w.heap.size) (RF e_Int) 1 A2 p_c.At.length c2 p_c.At) (h3 : RdS w (Iv 0 w.heap.size) (RF e_Write) 3 A3 p_c.Store.length c3 p_c.Store) (o4 : ok_Shift p_c) : Cal Tryz.prog 84 #[.agg #[.string (bs (p_c.Name)), .slice A1 p_c.Ways.length c1, .slice A2 p_c.At.length c2, .slice A3 p_c.Store.length c3]] w fun v w' => v = .bool ((i_GoodShift p_c)) ∧ Ex w w' := by
 have hol5 : p_c.Name.length ≤ 1073741824 := o4.1
 have hol6 := o4.2.1.1
 have hol7 := o4.2.2.1.1
 have hol8 := o4.2.2.2.1
 refine Cal.of func84 rfl ntmps84 rfl (CW.seq (CW.region (sd rfl (yl_box rfl rfl rfl ?_))))
 intro b9 w10 hs11 hz12 hB13 hE14
 refine sd rfl (yl_assign rfl rfl (dn (CW.seq (CW.seq (CW.region (sd rfl (yl_fieldAddr fd58_1 rfl rfl (sd rfl (yl_load1 ty56 rfl rfl ((hB13.cell 1).trans rfl) (sd rfl (yl_len un56 rfl rfl ?_)))))))))))
 refine sd rfl (yl_call en66 rfl (oc rfl (oc rfl (oc rfl oz))) (Cal.mono (c_i_within (p_c.Ways.length : Int) 1 4) ?_))
 rintro v16 w15 ⟨rfl, hE17⟩
 have hE17z := Ex.size hE17
 refine sd rfl (yl_not rfl rfl (sd rfl (yl_move rfl rfl (bcase (i_within (p_c.Ways.length : Int) 1 4) (fun hb18 => ?_) (fun hb18 => ?_)))))
 ·have hb18p := f_within hb18
  refine sy rfl rfl (not_t hb18) (yl_fieldAddr fd58_2 rfl rfl ?_)
  have q19 := Box.ex hB13 hE17
  refine sy rfl rfl (not_t hb18) (yl_load1 ty46 rfl rfl ((q19.cell 2).trans rfl) (sy rfl rfl (not_t hb18) (yl_len un46 rfl rfl (sy rfl rfl (not_t hb18) (yl_call en66 rfl (oc rfl (oc rfl (oc rfl oz))) (Cal.mono (c_i_within (p_c.At.length : Int) 1 3) ?_))))))
  rintro v21 w20 ⟨rfl, hE22⟩
  have hE22z := Ex.size hE22
  refine sy rfl rfl (not_t hb18) (yl_not rfl rfl (sd rfl (yl_pick_f rfl rfl (not_t hb18) rfl (sd rfl (yl_move rfl rfl (bcase (i_within (p_c.At.length : Int) 1 3) (fun hb23 => ?_) (fun hb23 => ?_)))))))
  ·have hb23p := f_within hb23
   refine sy rfl rfl (not_t hb23) (yl_fieldAddr fd58_3 rfl rfl ?_)
   have q24 := Box.ex q19 hE22
   refine sy rfl rfl (not_t hb23) (yl_load1 ty36 rfl rfl ((q24.cell 3).trans rfl) ?_)
   have q27 := RdS.ex good_Write (RdS.ex good_Write (RdS.ex good_Write h3 hE14) hE17) hE22
   refine sy rfl rfl (not_t hb23) (yl_call en33 rfl (oc rfl oz) (Cal.mono (c_i_isRows p_c.Store (RdS.up q27 good_Write) o4.2.2.2) ?_))
   rintro v29 w28 ⟨rfl, hE30⟩
   have hE30z := Ex.size hE30
   refine sy rfl rfl (not_t hb23) (yl_not rfl rfl (sd rfl (yl_pick_f rfl rfl (not_t hb23) rfl (dn (bcase (i_isRows p_c.Store) (fun hb31 => ?_) (fun hb31 => ?_))))))
   ·refine CW.cond_f rfl (not_t hb31) (CW.skip (tn (CW.seq (CW.seq (CW.region (sd rfl (yl_fieldAddr fd58_1 rfl rfl ?_)))))))
    have q32 := Box.ex q24 hE30
    refine sd rfl (yl_load1 ty56 rfl rfl ((q32.cell 1).trans rfl) (sd rfl (yl_makeFunc rfl (oc rfl oz) ?_)))
    have q36 := RdS.ex good_Table (RdS.ex good_Table (RdS.ex good_Table (RdS.ex good_Table h1 hE14) hE17) hE22) hE30
    have q40 := RdS.ex good_Int (RdS.ex good_Int (RdS.ex good_Int (RdS.ex good_Int h2 hE14) hE17) hE22) hE30
    have q41 := RdS.ex good_Write q27 hE30
    refine sd rfl (yl_call en110 rfl (oc rfl (oc rfl oz)) (Cal.mono (c_g_slices_ContainsFunc_Table p_c.Ways (fun y0 => i_GoodShift_c1 y0 p_c) (RdS.up q36 good_Table) en111 (fun _ y0 => fun hE hm0 hv0 hv1 ov0 => c_i_GoodShift_c1 y0 p_c hv0 hv1 (RdS.up (RdS.ex good_Table q36 hE) good_Table) (RdS.up (RdS.ex good_Int q40 hE) good_Int) (RdS.up (RdS.ex good_Write q41 hE) good_Write) (Box.ex q32 hE) ov0 o4) o4.2.1) ?_))
    rintro v43 w42 ⟨rfl, hE44⟩
    have hE44z := Ex.size hE44
    refine dn (bcase (g_slices_ContainsFunc_Table p_c.Ways (fun y0 => i_GoodShift_c1 y0 p_c)) (fun hb45 => ?_) (fun hb45 => ?_))
    ·refine CW.cond_t rfl hb45 (CW.seq (CW.region (sd rfl (yl_assign rfl rfl (dn (CW.ret (tr (rr rfl (.cons rfl .nil) ?_))))))))
     have hM46 : (i_GoodShift p_c) = (false) := by simp only [i_GoodShift, hb18, hb23, hb31, hb45, cL]
     rw [hM46]
     exact ⟨rfl, (Ex.trans (Ex.trans (Ex.trans (Ex.trans (Ex.trans (Ex.refl w) hE14) hE17) hE22) hE30) hE44)⟩
    ·have hb45p := gs_facts (by omega) hb45
     refine CW.cond_f rfl hb45 (CW.skip (tn (CW.seq (CW.seq (CW.region (sd rfl (yl_fieldAddr fd58_2 rfl rfl ?_)))))))
     have q52 := Box.ex q32 hE44
     refine sd rfl (yl_load1 ty46 rfl rfl ((q52.cell 2).trans rfl) (sd rfl (yl_makeFunc rfl (oc rfl oz) ?_)))
     have q53 := RdS.ex good_Int q40 hE44
     have q54 := RdS.ex good_Table q36 hE44
     have q55 := RdS.ex good_Write q41 hE44
     refine sd rfl (yl_call en113 rfl (oc rfl (oc rfl oz)) (Cal.mono (c_g_slices_ContainsFunc_int p_c.At (fun y0 => i_GoodShift_c2 y0 p_c) (RdS.up q53 good_Int) en114 (fun _ y0 => fun hE hm0 => c_i_GoodShift_c2 y0 p_c (RdS.up (RdS.ex good_Table q54 hE) good_Table) (RdS.up (RdS.ex good_Int q53 hE) good_Int) (RdS.up (RdS.ex good_Write q55 hE) good_Write) (Box.ex q52 hE) o4) o4.2.2.1) ?_))
     rintro v57 w56 ⟨rfl, hE58⟩
     have hE58z := Ex.size hE58
     refine dn (bcase (g_slices_ContainsFunc_int p_c.At (fun y0 => i_GoodShift_c2 y0 p_c)) (fun hb59 => ?_) (fun hb59 => ?_))
     ·refine CW.cond_t rfl hb59 (CW.seq (CW.region (sd rfl (yl_assign rfl rfl (dn (CW.ret (tr (rr rfl (.cons rfl .nil) ?_))))))))
      have hM60 : (i_GoodShift p_c) = (false) := by simp only [i_GoodShift, hb18, hb23, hb31, hb45, hb59, cL]
      rw [hM60]
      exact ⟨rfl, (Ex.trans (Ex.trans (Ex.trans (Ex.trans (Ex.trans (Ex.trans (Ex.refl w) hE14) hE17) hE22) hE30) hE44) hE58)⟩
     ·refine CW.cond_f rfl hb59 (CW.skip (tn (CW.seq ?_)))
      have q67 := Box.ex q52 hE58
      have q68 := RdS.ex good_Table q54 hE58
      obtain ⟨eb69, eo69, _, eA69, _, ebl69, _, eR69, eC69⟩ := RdS.aD q68 d_Table (i := 0)
      obtain ⟨A70, c70, A71, c71, rfl, h70, h71⟩ := eR69
      obtain ⟨eb72, eo72, _, eA72, _, ebl72, _, eR72, eC72⟩ := RdS.atD q68 d_Table (i := (IntKind.wrap .i64 ((p_c.Ways.length : Int) - 1)).toNat) (by first | omega | assumption | (simp only [wI] at *; omega))
      obtain ⟨A73, c73, A74, c74, rfl, h73, h74⟩ := eR72
      refine CW.drawsI 21 (vgetI [DetI (.pointer (some ⟨b9, 0 + 1, none⟩)), DetI (.slice A1 p_c.Ways.length c1), DetI (.pointer (some ⟨b9, 0 + 1, none⟩)), DetI (.slice A1 p_c.Ways.length c1), DetI (.pointer (some ⟨eb69, eo69 + 0 * 3, none⟩)), DetI (.agg #[.string (bs ((p_c.Ways.getD 0 d_Table).Name)), .slice A70 (((p_c.Ways.getD 0 d_Table).Cols).length) c70, .slice A71 (((p_c.Ways.getD 0 d_Table).Idxs).length) c71]), DetI (.pointer (some ⟨b9, 0 + 0, none⟩)), DetI (.string (bs (p_c.Name))), DetI (.agg #[.string (bs (p_c.Name)), .slice A1 p_c.Ways.length c1, .slice A2 p_c.At.length c2, .slice A3 p_c.Store.length c3]), DetI (.pointer (some ⟨b9, 0 + 1, none⟩)), DetI (.slice A1 p_c.Ways.length c1), DetI (.pointer (some ⟨b9, 0 + 1, none⟩)), DetI (.slice A1 p_c.Ways.length c1), DetI (.int .i64 ((p_c.Ways.length : Int))), DetI (.int .i64 (IntKind.wrap .i64 ((p_c.Ways.length : Int) - 1))), DetI (.pointer (some ⟨eb72, eo72 + ((IntKind.wrap .i64 ((p_c.Ways.length : Int) - 1)).toNat) * 3, none⟩)), DetI (.agg #[.string (bs ((p_c.Ways.getD ((IntKind.wrap .i64 ((p_c.Ways.length : Int) - 1)).toNat) d_Table).Name)), .slice A73 (((p_c.Ways.getD ((IntKind.wrap .i64 ((p_c.Ways.length : Int) - 1)).toNat) d_Table).Cols).length) c73, .slice A74 (((p_c.Ways.getD ((IntKind.wrap .i64 ((p_c.Ways.length : Int) - 1)).toNat) d_Table).Idxs).length) c74]), DetI (.int .i64 ((i_Shift_stageOf p_c (p_c.Ways.getD ((IntKind.wrap .i64 ((p_c.Ways.length : Int) - 1)).toNat) d_Table)))), fun lo hi v wq => ∃ A79 c79 lo79 hi79, v = .slice A79 ((i_Table_wayTo (p_c.Ways.getD 0 d_Table) p_c.Name (i_Shift_stageOf p_c (p_c.Ways.getD ((IntKind.wrap .i64 ((p_c.Ways.length : Int) - 1)).toNat) d_Table))).length) c79 ∧ OwnD wq lo79 hi79 34 3 RO_Table A79 ((i_Table_wayTo (p_c.Ways.getD 0 d_Table) p_c.Name (i_Shift_stageOf p_c (p_c.Ways.getD ((IntKind.wrap .i64 ((p_c.Ways.length : Int) - 1)).toNat) d_Table))).length) c79 (i_Table_wayTo (p_c.Ways.getD 0 d_Table) p_c.Name (i_Shift_stageOf p_c (p_c.Ways.getD ((IntKind.wrap .i64 ((p_c.Ways.length : Int) - 1)).toNat) d_Table))) ∧ (okL ok_Table) (i_Table_wayTo (p_c.Ways.getD 0 d_Table) p_c.Name (i_Shift_stageOf p_c (p_c.Ways.getD ((IntKind.wrap .i64 ((p_c.Ways.length : Int) - 1)).toNat) d_Table))) ∧ (lo ≤ lo79 ∧ lo79 ≤ hi79 ∧ hi79 ≤ hi), DetI (.bool ((g_slices_EqualFunc_Table p_c.Ways (i_Table_wayTo (p_c.Ways.getD 0 d_Table) p_c.Name (i_Shift_stageOf p_c (p_c.Ways.getD ((IntKind.wrap .i64 ((p_c.Ways.length : Int) - 1)).toNat) d_Table))) (fun y0 y1 => i_sameTable y0 y1)))), DetI (.bool ((g_slices_EqualFunc_Table p_c.Ways (i_Table_wayTo (p_c.Ways.getD 0 d_Table) p_c.Name (i_Shift_stageOf p_c (p_c.Ways.getD ((IntKind.wrap .i64 ((p_c.Ways.length : Int) - 1)).toNat) d_Table))) (fun y0 y1 => i_sameTable y0 y1))))]) Tryz.follows rfl rfl rfl rfl rfl rfl (vgetI_stable ⟨StableI.det _, StableI.det _, StableI.det _, StableI.det _, StableI.det _, StableI.det _, StableI.det _, StableI.det _, StableI.det _, StableI.det _, StableI.det _, StableI.det _, StableI.det _, StableI.det _, StableI.det _, StableI.det _, StableI.det _, StableI.det _, (fun _ _ _ _ _ ⟨A79, c79, lo79, hi79, hv, h79, ho80, hr0⟩ e => ⟨A79, c79, lo79, hi79, hv, OwnD.ex goodO_Table h79 e, ho80, hr0⟩), StableI.det _, StableI.det _, trivial⟩) ⟨?_, ?_, ?_, ?_, ?_, ?_, ?_, ?_, ?_, ?_, ?_, ?_, ?_, ?_, ?_, ?_, ?_, ?_, ?_, ?_, ?_, trivial⟩ ?_
      ·exact oI rfl fun h => yl_fieldAddr fd58_1 rfl (h.old 1 _ rfl rfl) kI
      ·exact oI rfl fun h => yl_load1 ty56 rfl (h.dt 0 29 rfl rfl rfl) (((Box.ex q67 h.ex).cell 1).trans rfl) kI
      ·exact oI rfl fun h => yl_fieldAddr fd58_1 rfl (h.old 1 _ rfl rfl) kI
      ·exact oI rfl fun h => yl_load1 ty56 rfl (h.dt 2 31 rfl rfl rfl) (((Box.ex q67 h.ex).cell 1).trans rfl) kI
      ·intro L104 w105 hi106
       have hE107 := hi106.ex
       have hE107z := Ex.size hE107
       exact os rfl ((yl_ixN un56 ty34 rfl (hi106.dt 3 32 rfl rfl rfl) rfl eA69 kI))
      ·exact oI rfl fun h => yl_loadN ty34 rfl (h.dt 4 33 rfl rfl rfl) (Cells.ex eC69 h.ex) rfl kI
      ·exact oI rfl fun h => yl_fieldAddr fd58_0 rfl (h.old 1 _ rfl rfl) kI
      ·exact oI rfl fun h => yl_load1 ty9 rfl (h.dt 6 35 rfl rfl rfl) (((Box.ex q67 h.ex).cell 0).trans rfl) kI
      ·exact oI rfl fun h => yl_loadN ty58 rfl (h.old 1 _ rfl rfl) ((Box.ex q67 h.ex).cells (n := 4) rfl) rfl kI
      ·exact oI rfl fun h => yl_fieldAddr fd58_1 rfl (h.old 1 _ rfl rfl) kI
      ·exact oI rfl fun h => yl_load1 ty56 rfl (h.dt 9 38 rfl rfl rfl) (((Box.ex q67 h.ex).cell 1).trans rfl) kI
      ·exact oI rfl fun h => yl_fieldAddr fd58_1 rfl (h.old 1 _ rfl rfl) kI
      ·exact oI rfl fun h => yl_load1 ty56 rfl (h.dt 11 40 rfl rfl rfl) (((Box.ex q67 h.ex).cell 1).trans rfl) kI
      ·exact oI rfl fun h => yl_len un56 rfl (h.dt 12 41 rfl rfl rfl) kI
      ·exact oI rfl fun h => yl_sub rfl (h.dt 13 42 rfl rfl rfl) rfl kI
      ·intro L164 w165 hi166
       have hE167 := hi166.ex
       have hE167z := Ex.size hE167
       exact os rfl ((yl_indexAddr un56 ty34 rfl (hi166.dt 10 39 rfl rfl rfl) (hi166.dt 14 43 rfl rfl rfl) eA72 (by first | omega | assumption | (simp only [wI] at *; omega)) (by first | omega | assumption | (simp only [wI] at *; omega)) kI))
      ·exact oI rfl fun h => yl_loadN ty34 rfl (h.dt 15 44 rfl rfl rfl) (Cells.ex eC72 h.ex) rfl kI
      ·intro L176 w177 hi178
       have hE179 := hi178.ex
       have hE179z := Ex.size hE179
       exact OpR.op' rfl (yl_call en117 rfl (oc (hi178.dt 8 37 rfl rfl rfl) (oc (hi178.dt 16 45 rfl rfl rfl) oz)) (Cal.mono (c_i_Shift_stageOf p_c (p_c.Ways.getD ((IntKind.wrap .i64 ((p_c.Ways.length : Int) - 1)).toNat) d_Table) (RdS.up (RdS.ex good_Table q68 hE179) good_Table) (RdS.up (RdS.ex good_Int (RdS.ex good_Int q53 hE58) hE179) good_Int) (RdS.up (RdS.ex good_Write (RdS.ex good_Write q55 hE58) hE179) good_Write) (RdS.up (RdS.ex good_Str h73 hE179) good_Str) (RdS.up (RdS.ex good_Idx h74 hE179) good_Idx) o4 (okL.getD o4.2.1 ok_d_Table _) (by first | omega | assumption | (simp only [wI] at *; omega))) fun _ _ h => h))
      ·intro L190 w191 hi192
       have hE193 := hi192.ex
       have hE193z := Ex.size hE193
       refine OpR.op' rfl (yl_call en116 rfl (oc (hi192.dt 5 34 rfl rfl rfl) (oc (hi192.dt 7 36 rfl rfl rfl) (oc (hi192.dt 17 46 rfl rfl rfl) oz))) (Cal.mono (c_i_Table_wayTo (p_c.Ways.getD 0 d_Table) p_c.Name (i_Shift_stageOf p_c (p_c.Ways.getD ((IntKind.wrap .i64 ((p_c.Ways.length : Int) - 1)).toNat) d_Table)) (RdS.up (RdS.ex good_Str h70 hE193) good_Str) (RdS.up (RdS.ex good_Idx h71 hE193) good_Idx) (okL.getD o4.2.1 ok_d_Table _) o4.1 (by first | omega | assumption | (simp only [wI] at *; omega)) (by first | omega | assumption | (simp only [wI] at *; omega)) (by first | omega | assumption | (simp only [wI] at *; omega))) ?_))
       rintro v202 w199 ⟨A200, c200, lo200, hi200, rfl, h200, ho201, hrn204, hE203⟩
       exact ⟨⟨A200, c200, lo200, hi200, rfl, h200, ho201, hrn204⟩, hE203⟩
      ·intro L205 w206 hi207
       have hE208 := hi207.ex
       obtain ⟨lo211, hh212, _, hx210, hr213, hr214, hr215, A79_216, c79_217, lo79_218, hi79_219, rfl, h220, h221, hrn222⟩ := hi207.dep 18 47 rfl rfl
       exact OpR.op' rfl (yl_call en115 rfl (oc (hi207.dt 1 30 rfl rfl rfl) (oc hx210 (oc rfl oz))) (Cal.mono (c_g_slices_EqualFunc_Table p_c.Ways (i_Table_wayTo (p_c.Ways.getD 0 d_Table) p_c.Name (i_Shift_stageOf p_c (p_c.Ways.getD ((IntKind.wrap .i64 ((p_c.Ways.length : Int) - 1)).toNat) d_Table))) (fun y0 y1 => i_sameTable y0 y1) (RdS.up (RdS.ex good_Table q68 hE208) good_Table) (RdS.up (OwnL.rd good_Table (OwnD.own goodO_Table good_Table h220)) good_Table) en118 (fun _ y0 => fun y1 => fun hE hm0 hm1 hv0 hv1 hv2 hv3 ov0 ov1 => c_i_sameTable y0 y1 hv0 hv1 hv2 hv3 ov0 ov1) o4.2.1 h221) fun _ _ h => h))
      ·exact oI rfl fun h => yl_assign rfl (h.dt 19 48 rfl rfl rfl) kI
      ·intro fl236 fh237 L233 w234 hp235
       have hE238 := hp235.ex
       have hE238z := Ex.size hE238
       have hr240 := hp235.rng 18 rfl
       obtain ⟨_, hx239, A79_241, c79_242, lo79_243, hi79_244, rfl, h245, h246, hrn247⟩ := hp235.new 18 47 rfl rfl
       refine dn (CW.sub (Sub.cons (d := 2) (hp235.nt 20 2 rfl rfl rfl) (Sub.nil _)) (CW.ret (rr rfl (.cons rfl .nil) ?_)))
       have hM249 : (i_GoodShift p_c) = ((g_slices_EqualFunc_Table p_c.Ways (i_Table_wayTo (p_c.Ways.getD 0 d_Table) p_c.Name (i_Shift_stageOf p_c (p_c.Ways.getD ((IntKind.wrap .i64 ((p_c.Ways.length : Int) - 1)).toNat) d_Table))) (fun y0 y1 => i_sameTable y0 y1))) := by simp only [i_GoodShift, hb18, hb23, hb31, hb45, hb59, cL]
       rw [hM249]
       exact ⟨rfl, (Ex.trans (Ex.trans (Ex.trans (Ex.trans (Ex.trans (Ex.trans (Ex.trans (Ex.refl w) hE14) hE17) hE22) hE30) hE44) hE58) hE238)⟩
   ·refine CW.cond_t rfl (not_f hb31) (CW.seq (CW.region (sd rfl (yl_assign rfl rfl (dn (CW.ret (tr (rr rfl (.cons rfl .nil) ?_))))))))
    have hM257 : (i_GoodShift p_c) = (false) := by simp only [i_GoodShift, hb18, hb23, hb31, cL]
    rw [hM257]
    exact ⟨rfl, (Ex.trans (Ex.trans (Ex.trans (Ex.trans (Ex.refl w) hE14) hE17) hE22) hE30)⟩
  ·refine sz rfl rfl (not_f hb23) (sz rfl rfl (not_f hb23) (sz rfl rfl (not_f hb23) (sz rfl rfl (not_f hb23) (sd rfl (yl_pick_t rfl rfl (not_f hb23) rfl (dn (CW.cond_t rfl rfl (CW.seq ?_))))))))
   refine CW.region (sd rfl (yl_assign rfl rfl (dn (CW.ret (tr (rr rfl (.cons rfl .nil) ?_))))))
   have hM262 : (i_GoodShift p_c) = (false) := by simp only [i_GoodShift, hb18, hb23, cL]
   rw [hM262]
   exact ⟨rfl, (Ex.trans (Ex.trans (Ex.trans (Ex.refl w) hE14) hE17) hE22)⟩
 ·refine sz rfl rfl (not_f hb18) (sz rfl rfl (not_f hb18) (sz rfl rfl (not_f hb18) (sz rfl rfl (not_f hb18) (sz rfl rfl (not_f hb18) (sd rfl (yl_pick_t rfl rfl (not_f hb18) rfl (sd rfl (yl_move rfl rfl (sz rfl rfl rfl (sz rfl rfl rfl ?_))))))))))
  refine sz rfl rfl rfl (sz rfl rfl rfl (sd rfl (yl_pick_t rfl rfl rfl rfl (dn (CW.cond_t rfl rfl (CW.seq (CW.region (sd rfl (yl_assign rfl rfl ?_)))))))))
  refine dn (CW.ret (tr (rr rfl (.cons rfl .nil) ?_)))
  have hM266 : (i_GoodShift p_c) = (false) := by simp only [i_GoodShift, hb18, cL]
  rw [hM266]
  exact ⟨rfl, (Ex.trans (Ex.trans (Ex.refl w) hE14) hE17)⟩
theorem c_i_GoodFill {w : World} (p_f : DFill) (o1 : ok_Fill p_f) : Cal Tryz.prog 85 #[.agg #[.string (bs (p_f.Last)), .bool (p_f.Over)]] w fun v w' => v = .bool ((i_GoodFill p_f)) ∧ Ex w w' := by
 refine Cal.of func85 rfl ntmps85 rfl (CW.seq (CW.region (sd rfl (yl_box rfl rfl rfl ?_))))
 intro b3 w4 hs5 hz6 hB7 hE8
 refine sd rfl (yl_assign rfl rfl (dn (CW.seq (CW.region (sd rfl (yl_fieldAddr fd59_0 rfl rfl (sd rfl (yl_load1 ty9 rfl rfl ((hB7.cell 0).trans rfl) (sd rfl (yl_seql (a := p_f.Last) (b := ([] : Str)) rfl rfl rfl (sd rfl (yl_move rfl rfl ?_))))))))))))
 refine bcase (p_f.Last == ([] : Str)) (fun hb9 => ?_) (fun hb9 => ?_)
 ·refine sz rfl rfl hb9 (sz rfl rfl hb9 (sz rfl rfl hb9 (sd rfl (yl_pick_t rfl rfl hb9 rfl (sd rfl (yl_assign rfl rfl (dn (CW.ret (rr rfl (.cons rfl .nil) ?_)))))))))
  have hM10 : (i_GoodFill p_f) = (true) := by simp only [i_GoodFill, hb9, cL]
  rw [hM10]
  exact ⟨rfl, (Ex.trans (Ex.refl w) hE8)⟩
 ·refine sy rfl rfl hb9 (yl_fieldAddr fd59_0 rfl rfl (sy rfl rfl hb9 (yl_load1 ty9 rfl rfl ((hB7.cell 0).trans rfl) (sy rfl rfl hb9 (yl_call en119 rfl (oc rfl oz) (Cal.mono (c_i_GoodKey p_f.Last o1) ?_))))))
  rintro v13 w12 ⟨rfl, hE14⟩
  refine sd rfl (yl_pick_f rfl rfl hb9 rfl (sd rfl (yl_assign rfl rfl (dn (CW.ret (rr rfl (.cons rfl .nil) ?_))))))
  have hM15 : (i_GoodFill p_f) = ((i_GoodKey p_f.Last)) := by simp only [i_GoodFill, hb9, cL]
  rw [hM15]
  exact ⟨rfl, (Ex.trans (Ex.trans (Ex.refl w) hE8) hE14)⟩
theorem c_i_GoodWork {A1 : Option Addr} {c1 : Nat} {A2 : Option Addr} {c2 : Nat} {A3 : Option Addr} {c3 : Nat} {w : World} (p_w : DWork) (h1 : RdS w (Iv 0 w.heap.size) R_Table 3 A1 p_w.Shift.Ways.length c1 p_w.Shift.Ways) (h2 : RdS w (Iv 0 w.heap.size) (RF e_Int) 1 A2 p_w.Shift.At.length c2 p_w.Shift.At) (h3 : RdS w (Iv 0 w.heap.size) (RF e_Write) 3 A3 p_w.Shift.Store.length c3 p_w.Shift.Store) (o4 : ok_Work p_w) : Cal Tryz.prog 49 #[.agg #[.string (bs (p_w.Shift.Name)), .slice A1 p_w.Shift.Ways.length c1, .slice A2 p_w.Shift.At.length c2, .slice A3 p_w.Shift.Store.length c3, .string (bs (p_w.Up.Last)), .bool (p_w.Up.Over), .string (bs (p_w.Down.Last)), .bool (p_w.Down.Over)]] w fun v w' => v = .bool ((i_GoodWork p_w)) ∧ Ex w w' := by
 refine Cal.of func49 rfl ntmps49 rfl (CW.seq (CW.region (sd rfl (yl_box rfl rfl rfl ?_))))
 intro b11 w12 hs13 hz14 hB15 hE16
 refine sd rfl (yl_assign rfl rfl (dn (CW.seq (CW.region (sd rfl (yl_fieldAddr fd61_0 rfl rfl (sd rfl (yl_loadN ty58 rfl rfl (hB15.cells (n := 4) rfl) rfl (sd rfl (yl_call en84 rfl (oc rfl oz) (Cal.mono (c_i_GoodShift p_w.Shift (RdS.up (RdS.ex good_Table h1 hE16) good_Table) (RdS.up (RdS.ex good_Int h2 hE16) good_Int) (RdS.up (RdS.ex good_Write h3 hE16) good_Write) o4.1) ?_)))))))))))
 rintro v21 w20 ⟨rfl, hE22⟩
 refine sd rfl (yl_move rfl rfl (bcase (i_GoodShift p_w.Shift) (fun hb23 => ?_) (fun hb23 => ?_)))
 ·obtain ⟨hb23p0, hb23p1⟩ := f_i_GoodShift hb23
  refine sy rfl rfl hb23 (yl_fieldAddr fd61_1 rfl rfl ?_)
  have q24 := Box.ex hB15 hE22
  refine sy rfl rfl hb23 (yl_loadN ty59 rfl rfl (q24.cells (n := 2) rfl) rfl (sy rfl rfl hb23 (yl_call en85 rfl (oc rfl oz) (Cal.mono (c_i_GoodFill p_w.Up o4.2.1) ?_))))
  rintro v26 w25 ⟨rfl, hE27⟩
  refine sd rfl (yl_pick_t rfl rfl hb23 rfl (sd rfl (yl_move rfl rfl (bcase (i_GoodFill p_w.Up) (fun hb28 => ?_) (fun hb28 => ?_)))))
  ·refine sy rfl rfl hb28 (yl_fieldAddr fd61_2 rfl rfl (sy rfl rfl hb28 (yl_loadN ty59 rfl rfl ((Box.ex q24 hE27).cells (n := 2) rfl) rfl (sy rfl rfl hb28 (yl_call en85 rfl (oc rfl oz) (Cal.mono (c_i_GoodFill p_w.Down o4.2.2) ?_))))))
   rintro v31 w30 ⟨rfl, hE32⟩
   refine sd rfl (yl_pick_t rfl rfl hb28 rfl (sd rfl (yl_assign rfl rfl (dn (CW.ret (rr rfl (.cons rfl .nil) ?_))))))
   have hM33 : (i_GoodWork p_w) = ((i_GoodFill p_w.Down)) := by simp only [i_GoodWork, hb23, hb28, cL]
   rw [hM33]
   exact ⟨rfl, (Ex.trans (Ex.trans (Ex.trans (Ex.trans (Ex.refl w) hE16) hE22) hE27) hE32)⟩
  ·refine sz rfl rfl hb28 (sz rfl rfl hb28 (sz rfl rfl hb28 (sd rfl (yl_pick_f rfl rfl hb28 rfl (sd rfl (yl_assign rfl rfl (dn (CW.ret (rr rfl (.cons rfl .nil) ?_)))))))))
   have hM38 : (i_GoodWork p_w) = (false) := by simp only [i_GoodWork, hb23, hb28, cL]
   rw [hM38]
   exact ⟨rfl, (Ex.trans (Ex.trans (Ex.trans (Ex.refl w) hE16) hE22) hE27)⟩
 ·refine sz rfl rfl hb23 (sz rfl rfl hb23 (sz rfl rfl hb23 (sd rfl (yl_pick_f rfl rfl hb23 rfl (sd rfl (yl_move rfl rfl (sz rfl rfl rfl (sz rfl rfl rfl (sz rfl rfl rfl (sd rfl (yl_pick_f rfl rfl rfl rfl ?_)))))))))))
  refine sd rfl (yl_assign rfl rfl (dn (CW.ret (rr rfl (.cons rfl .nil) ?_))))
  have hM42 : (i_GoodWork p_w) = (false) := by simp only [i_GoodWork, hb23, cL]
  rw [hM42]
  exact ⟨rfl, (Ex.trans (Ex.trans (Ex.refl w) hE16) hE22)⟩
theorem c_i_Table_idxHead {A1 : Option Addr} {c1 : Nat} {A2 : Option Addr} {c2 : Nat} {w : World} (p_t : DTable) (p_name : Str) (h1 : RdS w (Iv 0 w.heap.size) (RF e_Str) 1 A1 p_t.Cols.length c1 p_t.Cols) (h2 : RdS w (Iv 0 w.heap.size) (RF e_Idx) 3 A2 p_t.Idxs.length c2 p_t.Idxs) (o3 : ok_Table p_t) (o4 : okS p_name) : Cal Tryz.prog 90 #[.agg #[.string (bs (p_t.Name)), .slice A1 p_t.Cols.length c1, .slice A2 p_t.Idxs.length c2], .string (bs (p_name))] w fun v w' => v = .string (bs ((i_Table_idxHead p_t p_name))) ∧ Ex w w' := by
 have hol5 : p_t.Name.length ≤ 1073741824 := o3.1
 have hol6 := o3.2.1.1
 have hol7 := o3.2.2.1
 have hol8 : p_name.length ≤ 1073741824 := o4
 refine Cal.of func90 rfl ntmps90 rfl (CW.seq (CW.region (sd rfl (yl_box rfl rfl rfl ?_))))
 intro b9 w10 hs11 hz12 hB13 hE14
 refine sd rfl (yl_assign rfl rfl (dn (CW.seq (CW.region (sd rfl (yl_fieldAddr fd34_0 rfl rfl (sd rfl (yl_load1 ty9 rfl rfl ((hB13.cell 0).trans rfl) ?_))))))))
 have hol15 : p_t.Name.length ≤ 1073741824 := o3.1
 refine sd rfl (yl_sadd (a := p_t.Name) (b := ([46] : Str)) rfl rfl rfl (by first | omega | (simp only [List.length_append, List.length_cons, List.length_nil, List.length_take, List.length_drop, toS_length]; omega)) (sd rfl (yl_move rfl rfl ?_)))
 have hol16 : p_t.Name.length ≤ 1073741824 := o3.1
 have hol17 : p_name.length ≤ 1073741824 := o4
 refine sd rfl (yl_sadd (a := (p_t.Name ++ ([46] : Str))) (b := p_name) rfl rfl rfl (by first | omega | (simp only [List.length_append, List.length_cons, List.length_nil, List.length_take, List.length_drop, toS_length]; omega)) ?_)
 have hol18 : p_t.Name.length ≤ 1073741824 := o3.1
 have hol19 : p_name.length ≤ 1073741824 := o4
 refine sd rfl (yl_sadd (a := ((p_t.Name ++ ([46] : Str)) ++ p_name)) (b := ([47] : Str)) rfl rfl rfl (by first | omega | (simp only [List.length_append, List.length_cons, List.length_nil, List.length_take, List.length_drop, toS_length]; omega)) (sd rfl (yl_assign rfl rfl (dn (CW.ret (rr rfl (.cons rfl .nil) ?_))))))
 have hM20 : (i_Table_idxHead p_t p_name) = (((p_t.Name ++ ([46] : Str)) ++ p_name) ++ ([47] : Str)) := by simp only [i_Table_idxHead, cL]
 rw [hM20]
 exact ⟨rfl, (Ex.trans (Ex.refl w) hE14)⟩
theorem c_g_internal_stringslite_Cut {w : World} (p_s : Str) (p_sep : Str) (o1 : okS p_s) (o2 : okS p_sep) (pre0 : p_sep.length = 1) : Cal Tryz.prog 144 #[.string (bs (p_s)), .string (bs (p_sep))] w fun v w' => v = .tuple #[.string (bs ((g_internal_stringslite_Cut p_s p_sep).1)), .string (bs ((g_internal_stringslite_Cut p_s p_sep).2.1)), .bool ((g_internal_stringslite_Cut p_s p_sep).2.2)] ∧ okS ((g_internal_stringslite_Cut p_s p_sep).1) ∧ okS ((g_internal_stringslite_Cut p_s p_sep).2.1) ∧ Ex w w' := by
 have hol3 : p_s.length ≤ 1073741824 := o1
 have hol4 : p_sep.length ≤ 1073741824 := o2
 refine Cal.of func144 rfl ntmps144 rfl (CW.seq (CW.region (sd rfl (yl_assign rfl rfl (sd rfl (yl_assign rfl rfl (sd rfl (yl_assign rfl rfl (dn (CW.seq ?_))))))))))
 refine CW.seq (CW.region (sd rfl (yl_move rfl rfl (sd rfl (yl_move rfl rfl (sd rfl (yl_call en161 rfl (oc rfl (oc rfl oz)) (Cal.mono (c_g_internal_stringslite_Index p_s p_sep o1 o2 (by first | omega | assumption | (simp only [wI] at *; omega))) ?_))))))))
 rintro v6 w5 ⟨rfl, hE7⟩
 have hE7z := Ex.size hE7
 have hrf8 := rf_Index (s := p_s) (sub := p_sep) (by first | omega | assumption | (simp only [wI] at *; omega))
 refine sd rfl (yl_assign rfl rfl (dn (CW.seq (CW.region (sd rfl (yl_move rfl rfl (sd rfl (yl_geq rfl rfl rfl (dn ?_)))))))))
 refine bcase (decide (0 ≤ (g_internal_stringslite_Index p_s p_sep))) (fun hb9 => ?_) (fun hb9 => ?_)
 ·have hb9p := dec_t hb9
  have hb9q := f_Cut o1 pre0 hb9
  refine CW.cond_t rfl hb9 (CW.seq (CW.drawsI 12 (vgetI ([.string (bs (p_s)), .int .i64 ((g_internal_stringslite_Index p_s p_sep)), .string (bs ((p_s.take (((g_internal_stringslite_Index p_s p_sep)).toNat)))), .string (bs (p_s)), .int .i64 ((g_internal_stringslite_Index p_s p_sep)), .string (bs (p_sep)), .int .i64 ((p_sep.length : Int)), .int .i64 (IntKind.wrap .i64 ((g_internal_stringslite_Index p_s p_sep) + (p_sep.length : Int))), .string (bs ((p_s.drop ((IntKind.wrap .i64 ((g_internal_stringslite_Index p_s p_sep) + (p_sep.length : Int))).toNat)))), .string (bs ((p_s.take (((g_internal_stringslite_Index p_s p_sep)).toNat)))), .string (bs ((p_s.drop ((IntKind.wrap .i64 ((g_internal_stringslite_Index p_s p_sep) + (p_sep.length : Int))).toNat)))), .bool (true)].map DetI)) Tryz.follows rfl rfl rfl rfl rfl rfl (vgetI_stable (stD _)) ⟨?_, ?_, ?_, ?_, ?_, ?_, ?_, ?_, ?_, ?_, ?_, ?_, trivial⟩ ?_))
  ·exact oI rfl fun h => yl_move rfl (h.old 0 _ rfl rfl) kI
  ·exact oI rfl fun h => yl_move rfl (h.old 7 _ rfl rfl) kI
  ·intro L20 w21 hi22
   have hE23 := hi22.ex
   have hE23z := Ex.size hE23
   exact os rfl ((yl_sslice_hi un9 (a := p_s) (h := ((g_internal_stringslite_Index p_s p_sep)).toNat) rfl (hi22.dt 0 13 rfl rfl rfl) (toNat_op (hi22.dt 1 14 rfl rfl rfl) (by omega)) (by omega) kI))
  ·exact oI rfl fun h => yl_move rfl (h.old 0 _ rfl rfl) kI
  ·exact oI rfl fun h => yl_move rfl (h.old 7 _ rfl rfl) kI
  ·exact oI rfl fun h => yl_move rfl (h.old 1 _ rfl rfl) kI
  ·exact oI rfl fun h => yl_slen un9 (a := p_sep) rfl (h.dt 5 18 rfl rfl rfl) kI
  ·exact oI rfl fun h => yl_add rfl (h.dt 4 17 rfl rfl rfl) (h.dt 6 19 rfl rfl rfl) kI
  ·intro L52 w53 hi54
   have hE55 := hi54.ex
   have hE55z := Ex.size hE55
   exact os rfl ((yl_sslice_lo un9 (a := p_s) (l := (IntKind.wrap .i64 ((g_internal_stringslite_Index p_s p_sep) + (p_sep.length : Int))).toNat) rfl (hi54.dt 3 16 rfl rfl rfl) (toNat_op (hi54.dt 7 20 rfl rfl rfl) (by omega)) (by omega) kI))
  ·exact oI rfl fun h => yl_assign rfl (h.dt 2 15 rfl rfl rfl) kI
  ·exact oI rfl fun h => yl_assign rfl (h.dt 8 21 rfl rfl rfl) kI
  ·exact oI rfl fun _ => yl_assign rfl rfl kI
  ·intro fl75 fh76 L72 w73 hp74
   have hE77 := hp74.ex
   have hE77z := Ex.size hE77
   refine dn (CW.sub (Sub.cons (d := 4) (hp74.nt 9 4 rfl rfl rfl) (Sub.cons (d := 5) (hp74.nt 10 5 rfl rfl rfl) (Sub.cons (d := 6) (hp74.nt 11 6 rfl rfl rfl) (Sub.nil _)))) (CW.ret (tr (rr rfl (.cons rfl (.cons rfl (.cons rfl .nil))) ?_))))
   have hM81 : (g_internal_stringslite_Cut p_s p_sep) = (((p_s.take (((g_internal_stringslite_Index p_s p_sep)).toNat)), (p_s.drop ((IntKind.wrap .i64 ((g_internal_stringslite_Index p_s p_sep) + (p_sep.length : Int))).toNat)), true)) := by simp only [g_internal_stringslite_Cut, hb9, cL]
   rw [hM81]
   exact ⟨rfl, (okS.take o1 _), (okS.drop o1 _), (Ex.trans (Ex.trans (Ex.refl w) hE7) hE77)⟩
 ·have hb9p := dec_f hb9
  refine CW.cond_f rfl hb9 (CW.skip (tn (CW.seq (CW.region (sd rfl (yl_move rfl rfl (sd rfl (yl_assign rfl rfl (sd rfl (yl_assign rfl rfl (sd rfl (yl_assign rfl rfl ?_))))))))))))
  refine dn (CW.ret (rr rfl (.cons rfl (.cons rfl (.cons rfl .nil))) ?_))
  have hM84 : (g_internal_stringslite_Cut p_s p_sep) = ((p_s, ([] : Str), false)) := by simp only [g_internal_stringslite_Cut, hb9, cL]
  rw [hM84]
  exact ⟨rfl, o1, (okS.lit rfl), (Ex.trans (Ex.refl w) hE7)⟩
theorem c_g_strings_Cut {w : World} (p_s : Str) (p_sep : Str) (o1 : okS p_s) (o2 : okS p_sep) (pre0 : p_sep.length = 1) : Cal Tryz.prog 120 #[.string (bs (p_s)), .string (bs (p_sep))] w fun v w' => v = .tuple #[.string (bs ((g_strings_Cut p_s p_sep).1)), .string (bs ((g_strings_Cut p_s p_sep).2.1)), .bool ((g_strings_Cut p_s p_sep).2.2)] ∧ okS ((g_strings_Cut p_s p_sep).1) ∧ okS ((g_strings_Cut p_s p_sep).2.1) ∧ Ex w w' := by
 have hol3 : p_s.length ≤ 1073741824 := o1
 have hol4 : p_sep.length ≤ 1073741824 := o2
 refine Cal.of func120 rfl ntmps120 rfl (CW.seq (CW.region (sd rfl (yl_assign rfl rfl (sd rfl (yl_assign rfl rfl (sd rfl (yl_assign rfl rfl (dn (CW.seq ?_))))))))))
 refine CW.region (sd rfl (yl_move rfl rfl (sd rfl (yl_move rfl rfl (sd rfl (yl_call en144 rfl (oc rfl (oc rfl oz)) (Cal.mono (c_g_internal_stringslite_Cut p_s p_sep o1 o2 (by first | omega | assumption | (simp only [wI] at *; omega))) ?_)))))))
 rintro v8 w5 ⟨rfl, ho6, ho7, hE9⟩
 have hE9z := Ex.size hE9
 refine sd rfl (yl_extract rfl rfl rfl (sd rfl (yl_extract rfl rfl rfl (sd rfl (yl_extract rfl rfl rfl (sd rfl (yl_assign rfl rfl (sd rfl (yl_assign rfl rfl (sd rfl (yl_assign rfl rfl (dn (CW.ret ?_)))))))))))))
 refine rr rfl (.cons rfl (.cons rfl (.cons rfl .nil))) ?_
 have hM10 : (g_strings_Cut p_s p_sep) = (((g_internal_stringslite_Cut p_s p_sep).1, (g_internal_stringslite_Cut p_s p_sep).2.1, (g_internal_stringslite_Cut p_s p_sep).2.2)) := by simp only [g_strings_Cut, cL]
 rw [hM10]
 exact ⟨rfl, ho6, ho7, (Ex.trans (Ex.refl w) hE9)⟩
theorem c_i_Table_readIdxKey {A1 : Option Addr} {c1 : Nat} {A2 : Option Addr} {c2 : Nat} {w : World} (p_t : DTable) (p_name : Str) (p_key : Str) (h1 : RdS w (Iv 0 w.heap.size) (RF e_Str) 1 A1 p_t.Cols.length c1 p_t.Cols) (h2 : RdS w (Iv 0 w.heap.size) (RF e_Idx) 3 A2 p_t.Idxs.length c2 p_t.Idxs) (o3 : ok_Table p_t) (o4 : okS p_name) (o5 : okS p_key) (pre0 : (p_t.Name.length ≤ 1 ∧ p_name.length ≤ 1)) : Cal Tryz.prog 86 #[.agg #[.string (bs (p_t.Name)), .slice A1 p_t.Cols.length c1, .slice A2 p_t.Idxs.length c2], .string (bs (p_name)), .string (bs (p_key))] w fun v w' => v = .tuple #[.string (bs ((i_Table_readIdxKey p_t p_name p_key).1)), .string (bs ((i_Table_readIdxKey p_t p_name p_key).2.1)), .bool ((i_Table_readIdxKey p_t p_name p_key).2.2)] ∧ okS ((i_Table_readIdxKey p_t p_name p_key).1) ∧ okS ((i_Table_readIdxKey p_t p_name p_key).2.1) ∧ Ex w w' := by
 refine Cal.of func86 rfl ntmps86 rfl (CW.seq (CW.region (sd rfl (yl_box rfl rfl rfl ?_))))
 intro b11 w12 hs13 hz14 hB15 hE16
 refine sd rfl (yl_assign rfl rfl (sd rfl (yl_assign rfl rfl (sd rfl (yl_assign rfl rfl (dn (CW.seq (CW.region (sd rfl (yl_move rfl rfl (sd rfl (yl_loadN ty34 rfl rfl (hB15.cells (n := 3) rfl) rfl ?_))))))))))))
 refine sd rfl (yl_move rfl rfl (sd rfl (yl_call en90 rfl (oc rfl (oc rfl oz)) (Cal.mono (c_i_Table_idxHead p_t p_name (RdS.up (RdS.ex good_Str h1 hE16) good_Str) (RdS.up (RdS.ex good_Idx h2 hE16) good_Idx) o3 o4) ?_))))
 rintro v20 w19 ⟨rfl, hE21⟩
 have hrf22 := rf_idxHead p_t p_name
 refine sd rfl (yl_call en102 rfl (oc rfl (oc rfl oz)) (Cal.mono (c_g_strings_CutPrefix p_key (i_Table_idxHead p_t p_name) o5 (okS_idxHead pre0)) ?_))
 rintro v25 w23 ⟨rfl, ho24, hE26⟩
 refine sd rfl (yl_move rfl rfl (sd rfl (yl_extract rfl rfl rfl (sd rfl (yl_extract rfl rfl rfl (sd rfl (yl_assign rfl rfl (sd rfl (yl_assign rfl rfl (dn (CW.seq (CW.region ?_))))))))))))
 refine sd rfl (yl_move rfl rfl (sd rfl (yl_call en120 rfl (oc rfl (oc rfl oz)) (Cal.mono (c_g_strings_Cut ((g_strings_CutPrefix p_key (i_Table_idxHead p_t p_name)).1) ([47] : Str) ho24 (okS.lit rfl) rfl) ?_))))
 rintro v30 w27 ⟨rfl, ho28, ho29, hE31⟩
 refine sd rfl (yl_move rfl rfl (sd rfl (yl_extract rfl rfl rfl (sd rfl (yl_extract rfl rfl rfl (sd rfl (yl_extract rfl rfl rfl (sd rfl (yl_assign rfl rfl (sd rfl (yl_assign rfl rfl (sd rfl (yl_assign rfl rfl (dn ?_))))))))))))))
 refine CW.seq (CW.seq (CW.region (sd rfl (yl_move rfl rfl (sd rfl (yl_not rfl rfl (sd rfl (yl_move rfl rfl (bcase ((g_strings_CutPrefix p_key (i_Table_idxHead p_t p_name)).2) (fun hb32 => ?_) (fun hb32 => ?_))))))))))
 ·refine sy rfl rfl (not_t hb32) (yl_move rfl rfl (sy rfl rfl (not_t hb32) (yl_not rfl rfl (sd rfl (yl_pick_f rfl rfl (not_t hb32) rfl (sd rfl (yl_move rfl rfl (bcase ((g_strings_Cut ((g_strings_CutPrefix p_key (i_Table_idxHead p_t p_name)).1) ([47] : Str)).2.2) (fun hb33 => ?_) (fun hb33 => ?_)))))))))
  ·refine sy rfl rfl (not_t hb33) (yl_move rfl rfl (sy rfl rfl (not_t hb33) (yl_call en121 rfl (oc rfl oz) (Cal.mono (c_i_isField ((g_strings_Cut ((g_strings_CutPrefix p_key (i_Table_idxHead p_t p_name)).1) ([47] : Str)).1) ho28) ?_))))
   rintro v35 w34 ⟨rfl, hE36⟩
   refine sy rfl rfl (not_t hb33) (yl_not rfl rfl (sd rfl (yl_pick_f rfl rfl (not_t hb33) rfl (sd rfl (yl_move rfl rfl (bcase (i_isField ((g_strings_Cut ((g_strings_CutPrefix p_key (i_Table_idxHead p_t p_name)).1) ([47] : Str)).1)) (fun hb37 => ?_) (fun hb37 => ?_)))))))
   ·refine sy rfl rfl (not_t hb37) (yl_move rfl rfl (sy rfl rfl (not_t hb37) (yl_call en121 rfl (oc rfl oz) (Cal.mono (c_i_isField ((g_strings_Cut ((g_strings_CutPrefix p_key (i_Table_idxHead p_t p_name)).1) ([47] : Str)).2.1) ho29) ?_))))
    rintro v39 w38 ⟨rfl, hE40⟩
    refine sy rfl rfl (not_t hb37) (yl_not rfl rfl (sd rfl (yl_pick_f rfl rfl (not_t hb37) rfl (dn (bcase (i_isField ((g_strings_Cut ((g_strings_CutPrefix p_key (i_Table_idxHead p_t p_name)).1) ([47] : Str)).2.1)) (fun hb41 => ?_) (fun hb41 => ?_))))))
    ·refine CW.cond_f rfl (not_t hb41) (CW.skip (tn (CW.seq (CW.region (sd rfl (yl_move rfl rfl (sd rfl (yl_move rfl rfl (sd rfl (yl_assign rfl rfl (sd rfl (yl_assign rfl rfl ?_))))))))))))
     refine sd rfl (yl_assign rfl rfl (dn (CW.ret (rr rfl (.cons rfl (.cons rfl (.cons rfl .nil))) ?_))))
     have hM42 : (i_Table_readIdxKey p_t p_name p_key) = (((g_strings_Cut ((g_strings_CutPrefix p_key (i_Table_idxHead p_t p_name)).1) ([47] : Str)).1, (g_strings_Cut ((g_strings_CutPrefix p_key (i_Table_idxHead p_t p_name)).1) ([47] : Str)).2.1, true)) := by simp only [i_Table_readIdxKey, hb32, hb33, hb37, hb41, cL]
     rw [hM42]
     exact ⟨rfl, ho28, ho29, (Ex.trans (Ex.trans (Ex.trans (Ex.trans (Ex.trans (Ex.trans (Ex.refl w) hE16) hE21) hE26) hE31) hE36) hE40)⟩
    ·refine CW.cond_t rfl (not_f hb41) (CW.seq (CW.region (sd rfl (yl_assign rfl rfl (sd rfl (yl_assign rfl rfl (sd rfl (yl_assign rfl rfl (dn (CW.ret ?_))))))))))
     refine tr (rr rfl (.cons rfl (.cons rfl (.cons rfl .nil))) ?_)
     have hM49 : (i_Table_readIdxKey p_t p_name p_key) = ((([] : Str), ([] : Str), false)) := by simp only [i_Table_readIdxKey, hb32, hb33, hb37, hb41, cL]
     rw [hM49]
     exact ⟨rfl, (okS.lit rfl), (okS.lit rfl), (Ex.trans (Ex.trans (Ex.trans (Ex.trans (Ex.trans (Ex.trans (Ex.refl w) hE16) hE21) hE26) hE31) hE36) hE40)⟩
   ·refine sz rfl rfl (not_f hb37) (sz rfl rfl (not_f hb37) (sz rfl rfl (not_f hb37) (sd rfl (yl_pick_t rfl rfl (not_f hb37) rfl (dn (CW.cond_t rfl rfl (CW.seq (CW.region ?_))))))))
    refine sd rfl (yl_assign rfl rfl (sd rfl (yl_assign rfl rfl (sd rfl (yl_assign rfl rfl (dn (CW.ret (tr (rr rfl (.cons rfl (.cons rfl (.cons rfl .nil))) ?_)))))))))
    have hM56 : (i_Table_readIdxKey p_t p_name p_key) = ((([] : Str), ([] : Str), false)) := by simp only [i_Table_readIdxKey, hb32, hb33, hb37, cL]
    rw [hM56]
    exact ⟨rfl, (okS.lit rfl), (okS.lit rfl), (Ex.trans (Ex.trans (Ex.trans (Ex.trans (Ex.trans (Ex.refl w) hE16) hE21) hE26) hE31) hE36)⟩
  ·refine sz rfl rfl (not_f hb33) (sz rfl rfl (not_f hb33) (sz rfl rfl (not_f hb33) (sd rfl (yl_pick_t rfl rfl (not_f hb33) rfl (sd rfl (yl_move rfl rfl (sz rfl rfl rfl (sz rfl rfl rfl (sz rfl rfl rfl (sd rfl (yl_pick_t rfl rfl rfl rfl ?_)))))))))))
   refine dn (CW.cond_t rfl rfl (CW.seq (CW.region (sd rfl (yl_assign rfl rfl (sd rfl (yl_assign rfl rfl (sd rfl (yl_assign rfl rfl (SeqR.done ?_))))))))))
   refine tn (CW.ret (tr (rr rfl (.cons rfl (.cons rfl (.cons rfl .nil))) ?_)))
   have hM62 : (i_Table_readIdxKey p_t p_name p_key) = ((([] : Str), ([] : Str), false)) := by simp only [i_Table_readIdxKey, hb32, hb33, cL]
   rw [hM62]
   exact ⟨rfl, (okS.lit rfl), (okS.lit rfl), (Ex.trans (Ex.trans (Ex.trans (Ex.trans (Ex.refl w) hE16) hE21) hE26) hE31)⟩
 ·refine sz rfl rfl (not_f hb32) (sz rfl rfl (not_f hb32) (sd rfl (yl_pick_t rfl rfl (not_f hb32) rfl (sd rfl (yl_move rfl rfl (sz rfl rfl rfl (sz rfl rfl rfl (sz rfl rfl rfl (sd rfl (yl_pick_t rfl rfl rfl rfl (sd rfl (yl_move rfl rfl ?_))))))))))))
  refine sz rfl rfl rfl (sz rfl rfl rfl (sz rfl rfl rfl (sd rfl (yl_pick_t rfl rfl rfl rfl (dn (CW.cond_t rfl rfl (CW.seq (CW.region ?_))))))))
  refine sd rfl (yl_assign rfl rfl (sd rfl (yl_assign rfl rfl (sd rfl (yl_assign rfl rfl (dn (CW.ret (tr (rr rfl (.cons rfl (.cons rfl (.cons rfl .nil))) ?_)))))))))
  have hM67 : (i_Table_readIdxKey p_t p_name p_key) = ((([] : Str), ([] : Str), false)) := by simp only [i_Table_readIdxKey, hb32, cL]
  rw [hM67]
  exact ⟨rfl, (okS.lit rfl), (okS.lit rfl), (Ex.trans (Ex.trans (Ex.trans (Ex.trans (Ex.refl w) hE16) hE21) hE26) hE31)⟩
theorem c_i_Table_entriesIn {A1 : Option Addr} {c1 : Nat} {A2 : Option Addr} {c2 : Nat} {A5 : Option Addr} {c5 : Nat} {w : World} (p_t : DTable) (p_name : Str) (p_store : List DWrite) (h1 : RdS w (Iv 0 w.heap.size) (RF e_Str) 1 A1 p_t.Cols.length c1 p_t.Cols) (h2 : RdS w (Iv 0 w.heap.size) (RF e_Idx) 3 A2 p_t.Idxs.length c2 p_t.Idxs) (h5 : RdS w (Iv 0 w.heap.size) (RF e_Write) 3 A5 p_store.length c5 p_store) (o3 : ok_Table p_t) (o4 : okS p_name) (o6 : (okL ok_Write) p_store) (pre0 : (p_t.Name.length ≤ 1 ∧ p_name.length ≤ 1)) : Cal Tryz.prog 50 #[.agg #[.string (bs (p_t.Name)), .slice A1 p_t.Cols.length c1, .slice A2 p_t.Idxs.length c2], .string (bs (p_name)), .slice A5 p_store.length c5] w fun v w' => ∃ A_1 c_1 lo_1 hi_1, v = .slice A_1 ((i_Table_entriesIn p_t p_name p_store).length) c_1 ∧ OwnL w' lo_1 hi_1 9 1 (RF e_Str) A_1 ((i_Table_entriesIn p_t p_name p_store).length) c_1 (i_Table_entriesIn p_t p_name p_store) ∧ (okL okS) (i_Table_entriesIn p_t p_name p_store) ∧ (w.heap.size ≤ lo_1 ∧ lo_1 ≤ hi_1 ∧ hi_1 ≤ w'.heap.size) ∧ Ex w w' := by
 have hol7 : p_t.Name.length ≤ 1073741824 := o3.1
 have hol8 := o3.2.1.1
 have hol9 := o3.2.2.1
 have hol10 : p_name.length ≤ 1073741824 := o4
 have hol11 := o6.1
 refine Cal.of func50 rfl ntmps50 rfl (CW.seq (CW.region (sd rfl (yl_box rfl rfl rfl ?_))))
 intro b12 w13 hs14 hz15 hB16 hE17
 refine sd rfl (yl_assign rfl rfl (dn (CW.seq (CW.region (sd rfl (yl_buildSlice (cs := []) un22 ty9 (by decide) rfl opvs_nil (by kernel_rfl) ?_))))))
 intro b18 w19 hs20 hz21 hB22 hE23
 have hO24 : OwnL w19 b18 (b18 + 1) 9 1 (RF e_Str) (some ⟨b18, 0, none⟩) 0 0 ([] : List Str) := OwnL.of_box (S := fun _ => False) hB22 (Nat.le_refl _) (Nat.lt_succ_self _) EncL.nil (Nat.le_of_ble_eq_true rfl) (fun h => h) (fun _ h => False.elim h)
 refine sd rfl (yl_assign rfl rfl (dn (CW.seq (CW.seq (CW.region (sd rfl (yl_move rfl rfl (sd rfl (yl_len un36 rfl rfl (sd rfl (yl_move rfl rfl ?_)))))))))))
 refine dn (CW.block (CW.loop (fun m91 L92 w93 => ∃ (k25 : Nat) (x87 : List Str) (A88 : Option Addr) (c89 : Nat) (u90 : Nat), m91 = p_store.length - k25 ∧ k25 ≤ p_store.length ∧ w19.heap.size ≤ w93.heap.size ∧ lkp L92 1 = some (.string (bs (p_name))) ∧ lkp L92 3 = some (.pointer (some ⟨b12, 0, none⟩)) ∧ lkp L92 7 = some (.slice A88 x87.length c89) ∧ lkp L92 14 = some (.slice A5 p_store.length c5) ∧ lkp L92 15 = some (.int .i64 ((p_store.length : Int))) ∧ lkp L92 16 = some (.int .i64 ((k25 : Int))) ∧ Box w93 b12 34 [.string (bs (p_t.Name)), .slice A1 p_t.Cols.length c1, .slice A2 p_t.Idxs.length c2] ∧ RdS w93 (Iv 0 w.heap.size) (RF e_Str) 1 A1 p_t.Cols.length c1 p_t.Cols ∧ RdS w93 (Iv 0 w.heap.size) (RF e_Idx) 3 A2 p_t.Idxs.length c2 p_t.Idxs ∧ OwnL w93 b18 u90 9 1 (RF e_Str) A88 x87.length c89 x87 ∧ RdS w93 (Iv 0 w.heap.size) (RF e_Write) 3 A5 p_store.length c5 p_store ∧ Ex w w93 ∧ (b18 ≤ u90 ∧ u90 ≤ w93.heap.size) ∧ x87.length ≤ 0 + 1 * (k25 - 0) ∧ (∀ y ∈ x87, okS y) ∧ loopM (B_i_Table_entriesIn_0 p_t p_name p_store) (p_store.length - k25) k25 (x87) = loopM (B_i_Table_entriesIn_0 p_t p_name p_store) (p_store.length - 0) 0 (([] : List Str))) (p_store.length - 0) ?_ ?_))
 ·exact ⟨0, ([] : List Str), (some ⟨b18, 0, none⟩), 0, (b18 + 1), rfl, (by omega), Nat.le_refl _, rfl, rfl, rfl, rfl, rfl, rfl, (Box.ex hB16 hE23), (RdS.ex good_Str (RdS.ex good_Str h1 hE17) hE23), (RdS.ex good_Idx (RdS.ex good_Idx h2 hE17) hE23), hO24, (RdS.ex good_Write (RdS.ex good_Write h5 hE17) hE23), (Ex.trans (Ex.trans (Ex.refl w) hE17) hE23), (by omega), (by first | (simp; done) | (first | omega | (simp only [List.length_append, List.length_cons, List.length_nil, List.length_set, toS_length]; omega))), okE.nil, rfl⟩
 ·rintro m103 L104 w105 ⟨k25, x87, A88, c89, u90, rfl, hk106, hsz108, hl109, hl110, hl111, hl112, hl113, hl114, hf115, hf116, hf117, hf118, hf119, hf120, hu121, hln122, hok123, hI107⟩
  refine CW.sub (Sub.cons hl109 (Sub.cons hl110 (Sub.cons hl111 (Sub.cons hl112 (Sub.cons hl113 (Sub.cons hl114 (Sub.nil _))))))) ?_
  have hf115z := Box.lt hf115
  have hf120z := Ex.size hf120
  have hbg124 := RdS.big hf119
  rcases Nat.lt_or_ge k25 p_store.length with hlt125 | hlt125
  ·refine CW.seq (CW.region (sd rfl (yl_lss rfl rfl rfl (dn (CW.seq (CW.cond_t rfl (lt_t hlt125) (CW.skip (tn ?_))))))))
   refine CW.seq (CW.block (CW.seq (CW.region ?_)))
   obtain ⟨eb126, eo126, _, eA126, _, ebl126, _, eR126, eC126⟩ := RdS.aD hf119 d_Write (i := k25)
   obtain rfl := eR126
   have eC126 : Cells w105 eb126 (eo126 + k25 * 3) [.string (bs ((p_store.getD k25 d_Write).Key)), .string (bs ((p_store.getD k25 d_Write).Val)), .bool ((p_store.getD k25 d_Write).Gone)] := eC126
   refine sd rfl (yl_ixN un36 ty75 rfl rfl rfl eA126 (sd rfl (yl_loadN ty75 rfl rfl eC126 rfl (sd rfl (yl_alloc ty75 (cs := [.string (bs (([] : Str))), .string (bs (([] : Str))), .bool (false)]) rfl rfl ?_)))))
   intro b127 w128 hs129 hz130 hB131 hE132
   refine SeqR.u rfl rfl (yl_store (vs := [.string (bs ((p_store.getD k25 d_Write).Key)), .string (bs ((p_store.getD k25 d_Write).Val)), .bool ((p_store.getD k25 d_Write).Gone)]) ty75 rfl rfl rfl rfl rfl rfl hB131 (Nat.le_of_ble_eq_true rfl) ?_)
   intro w133 hB134 hO135
   have hB134 : Box w133 b127 75 [.string (bs ((p_store.getD k25 d_Write).Key)), .string (bs ((p_store.getD k25 d_Write).Val)), .bool ((p_store.getD k25 d_Write).Gone)] := hB134
   have hO135z := hO135.size
   refine dn (CW.seq (CW.region ?_))
   have q137 := Box.only (Box.ex hf115 hE132) hO135 (by omega)
   refine sd rfl (yl_loadN ty34 rfl rfl (q137.cells (n := 3) rfl) rfl (sd rfl (yl_move rfl rfl (sd rfl (yl_fieldAddr fd75_0 rfl rfl (sd rfl (yl_load1 ty9 rfl rfl ((hB134.cell 0).trans rfl) ?_)))))))
   have q139 := RdS.only good_Str (RdS.ex good_Str hf116 hE132) hO135 (by simp only [Iv]; omega)
   have q141 := RdS.only good_Idx (RdS.ex good_Idx hf117 hE132) hO135 (by simp only [Iv]; omega)
   refine sd rfl (yl_call en86 rfl (oc rfl (oc rfl (oc rfl oz))) (Cal.mono (c_i_Table_readIdxKey p_t p_name ((p_store.getD k25 d_Write).Key) (RdS.up q139 good_Str) (RdS.up q141 good_Idx) o3 o4 ((okL.getD o6 ok_d_Write _).1) (by first | omega | assumption | (simp only [wI] at *; omega))) ?_))
   rintro v145 w142 ⟨rfl, ho143, ho144, hE146⟩
   have hE146z := Ex.size hE146
   refine sd rfl (yl_move rfl rfl (sd rfl (yl_extract rfl rfl rfl (sd rfl (yl_extract rfl rfl rfl (sd rfl (yl_extract rfl rfl rfl (sd rfl (yl_assign rfl rfl (sd rfl (yl_assign rfl rfl (sd rfl (yl_assign rfl rfl (dn ?_))))))))))))))
   refine CW.seq (CW.region (sd rfl (yl_move rfl rfl (dn (bcase ((i_Table_readIdxKey p_t p_name ((p_store.getD k25 d_Write).Key)).2.2) (fun hb147 => ?_) (fun hb147 => ?_))))))
   ·refine CW.cond_t rfl hb147 (CW.region (sd rfl (yl_move rfl rfl (sd rfl (yl_fieldAddr fd75_0 rfl rfl (sd rfl (yl_load1 ty9 rfl rfl (((Box.ex hB134 hE146).cell 0).trans rfl) (sd rfl (yl_buildSlice (cs := [.string (bs ((p_store.getD k25 d_Write).Key))]) un22 ty9 (by decide) rfl (oc rfl oz) (by kernel_rfl) ?_)))))))))
    intro b149 w150 hs151 hz152 hB153 hE154
    have hO155 : OwnL w150 b149 (b149 + 1) 9 1 (RF e_Str) (some ⟨b149, 0, none⟩) 1 1 ([(p_store.getD k25 d_Write).Key] : List Str) := OwnL.of_box (S := fun _ => False) hB153 (Nat.le_refl _) (Nat.lt_succ_self _) (EncL.cons (c := [.string (bs ((p_store.getD k25 d_Write).Key))]) rfl rfl EncL.nil) (Nat.le_of_ble_eq_true rfl) (fun h => h) (fun _ h => False.elim h)
    refine sd rfl (yl_appendL (S := (fun _ => False)) (lo := b18) (hi := u90) (xs := x87) (ys := ([(p_store.getD k25 d_Write).Key] : List Str)) good_Str un22 ty9 rfl (Nat.le_of_ble_eq_true rfl) rfl rfl rfl (OwnL.ex good_Str (OwnL.ex good_Str (OwnL.only good_Str (OwnL.ex good_Str hf118 hE132) hO135 (by omega)) hE146) hE154) (EncL.cons (c := [.string (bs ((p_store.getD k25 d_Write).Key))]) rfl rfl EncL.nil) (Or.inr ⟨_, _, rfl, rfl, hB153.cells (o := 0) (n := 1) rfl⟩) rfl (by first | omega | (simp only [List.length_append, List.length_cons, List.length_nil, List.length_take, List.length_drop, List.length_replicate, List.length_set, toS_length]; omega)) (by first | omega | (simp only [List.length_append, List.length_cons, List.length_nil, List.length_take, List.length_drop, List.length_replicate, List.length_set, toS_length]; omega)) (by omega) (by omega) (fun _ h _ => False.elim h) (by omega) ?_)
    intro A160 c161 w162 row163 hO164 hG165 hrg166
    have hG165z := hG165.size
    refine sd rfl (yl_assign rfl rfl (SeqR.done (bn (tn (CW.region (sd rfl (yl_inc rfl rfl rfl (by omega) (sd rfl (yl_move rfl rfl (dn ?_))))))))))
    have hB167 : B_i_Table_entriesIn_0 p_t p_name p_store k25 (x87) = .cont ((x87 ++ ([(p_store.getD k25 d_Write).Key] : List Str))) := by simp only [B_i_Table_entriesIn_0, hb147, cL]
    exact ⟨p_store.length - (k25 + 1), by omega, k25 + 1, (x87 ++ ([(p_store.getD k25 d_Write).Key] : List Str)), A160, c161, w162.heap.size, rfl, hlt125, (by omega), rfl, rfl, rfl, rfl, rfl, rfl, (Box.grown (Box.ex (Box.ex q137 hE146) hE154) hG165 (fun k hk => by have := hrg166 k hk; omega)), (RdS.grown good_Str (RdS.ex good_Str (RdS.ex good_Str q139 hE146) hE154) hG165 (fun k hk => by have := hrg166 k hk; simp only [Iv]; omega)), (RdS.grown good_Idx (RdS.ex good_Idx (RdS.ex good_Idx q141 hE146) hE154) hG165 (fun k hk => by have := hrg166 k hk; simp only [Iv]; omega)), hO164, (RdS.grown good_Write (RdS.ex good_Write (RdS.ex good_Write (RdS.only good_Write (RdS.ex good_Write hf119 hE132) hO135 (by simp only [Iv]; omega)) hE146) hE154) hG165 (fun k hk => by have := hrg166 k hk; simp only [Iv]; omega)), (Below.grown (Ex.trans (Ex.trans (Below.only (Ex.trans hf120 hE132) hO135 (by omega)) hE146) hE154) hG165 (by omega) (fun k hk => by have := hrg166 k hk; omega)), (by omega), (by first | omega | (simp only [List.length_append, List.length_cons, List.length_nil, List.length_set, toS_length]; omega)), (okE.append hok123 ((okL.mk (Nat.le_of_ble_eq_true rfl) (okE.cons (okL.getD o6 ok_d_Write _).1 okE.nil))).2), (loopM.cont hlt125 hB167).symm.trans hI107⟩
   ·refine CW.cond_f rfl hb147 (CW.skip (bn (tn (CW.region (sd rfl (yl_inc rfl rfl rfl (by omega) (sd rfl (yl_move rfl rfl (dn ?_)))))))))
    have hB187 : B_i_Table_entriesIn_0 p_t p_name p_store k25 (x87) = .cont (x87) := by simp only [B_i_Table_entriesIn_0, hb147, cL]
    exact ⟨p_store.length - (k25 + 1), by omega, k25 + 1, x87, A88, c89, u90, rfl, hlt125, (by omega), rfl, rfl, rfl, rfl, rfl, rfl, (Box.ex q137 hE146), (RdS.ex good_Str q139 hE146), (RdS.ex good_Idx q141 hE146), (OwnL.ex good_Str (OwnL.only good_Str (OwnL.ex good_Str hf118 hE132) hO135 (by omega)) hE146), (RdS.ex good_Write (RdS.only good_Write (RdS.ex good_Write hf119 hE132) hO135 (by simp only [Iv]; omega)) hE146), (Ex.trans (Below.only (Ex.trans hf120 hE132) hO135 (by omega)) hE146), (by omega), (by first | omega | (simp only [List.length_append, List.length_cons, List.length_nil, List.length_set, toS_length]; omega)), hok123, (loopM.cont hlt125 hB187).symm.trans hI107⟩
  ·refine CW.seq (CW.region (sd rfl (yl_lss rfl rfl rfl (dn (CW.seq (CW.cond_f rfl (lt_f hlt125) (CW.exit (tx ?_))))))))
   refine tx ?_
   have hL200 : loopM (B_i_Table_entriesIn_0 p_t p_name p_store) (p_store.length - 0) 0 (([] : List Str)) = .done (x87) := hI107.symm.trans (loopM.stop hlt125)
   refine bx (tn (CW.seq (CW.region (sd rfl (yl_move rfl rfl (sd rfl (yl_assign rfl rfl (dn (CW.ret ?_)))))))))
   refine rr rfl (.cons rfl .nil) ?_
   have hM201 : (i_Table_entriesIn p_t p_name p_store) = (x87) := by simp only [i_Table_entriesIn, hL200, cL]
   rw [hM201]
   exact ⟨A88, c89, b18, u90, rfl, hf118, (okL.mk (xs := x87) (by first | omega | (simp only [List.length_append, List.length_cons, List.length_nil, List.length_take, List.length_drop, List.length_replicate, List.length_set, toS_length]; omega)) hok123), (by omega), hf120⟩
theorem c_g_slices_IndexFunc_Row {A1 : Option Addr} {c1 : Nat} {g3 : Nat} {cp4 : List Value} {w : World} (p_s : List DRow) (p_f : DRow → Bool) (h1 : RdS w (Iv 0 w.heap.size) R_Row 1 A1 p_s.length c1 p_s) (hen5 : Go.X.Enters Tryz.prog g3) (hfn6 : ∀ (w1 : World) (y0 : DRow) {A7 : Option Addr} {c7 : Nat}, Ex w w1 → y0 ∈ p_s → RdS w1 (Iv 0 w1.heap.size) (RF e_Str) 1 A7 y0.Vals.length c7 y0.Vals → ok_Row y0 → Cal Tryz.prog g3 (([.agg #[.slice A7 y0.Vals.length c7]] : List Value) ++ cp4).toArray w1 fun v w2 => v = .bool (p_f y0) ∧ Ex w1 w2) (o2 : (okL ok_Row) p_s) : Cal Tryz.prog 87 #[.slice A1 p_s.length c1, .func (.func g3) #[] cp4.toArray] w fun v w' => v = .int .i64 ((g_slices_IndexFunc_Row p_s p_f)) ∧ Ex w w' := by
 have hol8 := o2.1
 refine Cal.of func87 rfl ntmps87 rfl (CW.seq (CW.region (sd rfl (yl_assign rfl rfl (dn (CW.seq (CW.seq (CW.region ?_))))))))
 refine sd rfl (yl_move rfl rfl (sd rfl (yl_len un29 rfl rfl (sd rfl (yl_move rfl rfl (dn (CW.block (CW.loop (fun m10 L11 w12 => ∃ (k9 : Nat), m10 = p_s.length - k9 ∧ k9 ≤ p_s.length ∧ w.heap.size ≤ w12.heap.size ∧ lkp L11 0 = some (.slice A1 p_s.length c1) ∧ lkp L11 1 = some (.func (.func g3) #[] cp4.toArray) ∧ lkp L11 7 = some (.int .i64 ((p_s.length : Int))) ∧ lkp L11 8 = some (.int .i64 ((k9 : Int))) ∧ RdS w12 (Iv 0 w.heap.size) R_Row 1 A1 p_s.length c1 p_s ∧ Ex w w12 ∧ loopM (B_g_slices_IndexFunc_Row_0 p_s p_f) (p_s.length - k9) k9 () = loopM (B_g_slices_IndexFunc_Row_0 p_s p_f) (p_s.length - 0) 0 ()) (p_s.length - 0) ?_ ?_))))))))
 ·exact ⟨0, rfl, (by omega), Nat.le_refl _, rfl, rfl, rfl, rfl, h1, (Ex.refl w), rfl⟩
 ·rintro m13 L14 w15 ⟨k9, rfl, hk16, hsz18, hl19, hl20, hl21, hl22, hf23, hf24, hI17⟩
  refine CW.sub (Sub.cons hl19 (Sub.cons hl20 (Sub.cons hl21 (Sub.cons hl22 (Sub.nil _))))) ?_
  have hf24z := Ex.size hf24
  have hbg25 := RdS.big hf23
  rcases Nat.lt_or_ge k9 p_s.length with hlt26 | hlt26
  ·refine CW.seq (CW.region (sd rfl (yl_lss rfl rfl rfl (dn (CW.seq (CW.cond_t rfl (lt_t hlt26) (CW.skip (tn ?_))))))))
   refine CW.seq (CW.block (CW.seq (CW.region (sd rfl (yl_move rfl rfl (sd rfl (yl_assign rfl rfl (dn (CW.seq ?_)))))))))
   refine CW.region (sd rfl (yl_move rfl rfl (sd rfl (yl_move rfl rfl (sd rfl (yl_move rfl rfl ?_))))))
   obtain ⟨_, _, _, eA27, _, ebl27, _, eR27, eC27⟩ := RdS.aD hf23 d_Row (i := k9)
   obtain ⟨A28, c28, rfl, h28⟩ := eR27
   refine sd rfl (yl_ixN un29 ty80 rfl rfl rfl eA27 (sd rfl (yl_loadN ty80 rfl rfl eC27 rfl (sd rfl (yl_callv hen5 rfl rfl (oc rfl oz) (Cal.mono (hfn6 w15 (p_s.getD k9 d_Row) hf24 (getD_mem (by omega)) (RdS.up h28 good_Str) (okL.getD o2 ok_d_Row _)) ?_))))))
   rintro v30 w29 ⟨rfl, hE31⟩
   have hE31z := Ex.size hE31
   refine dn (bcase (p_f (p_s.getD k9 d_Row)) (fun hb32 => ?_) (fun hb32 => ?_))
   ·refine CW.cond_t rfl hb32 (CW.seq (CW.region (sd rfl (yl_move rfl rfl (sd rfl (yl_assign rfl rfl (dn (CW.ret (br ?_)))))))))
    refine tr (tr ?_)
    have hB34 : B_g_slices_IndexFunc_Row_0 p_s p_f k9 () = .ret (k9 : Int) := by simp only [B_g_slices_IndexFunc_Row_0, hb32, cL]
    have hL33 : loopM (B_g_slices_IndexFunc_Row_0 p_s p_f) (p_s.length - 0) 0 () = .ret (k9 : Int) := hI17.symm.trans (loopM.ret hlt26 hB34)
    refine br (tr (rr rfl (.cons rfl .nil) ?_))
    have hM35 : (g_slices_IndexFunc_Row p_s p_f) = ((k9 : Int)) := by simp only [g_slices_IndexFunc_Row, hb32, hL33, cL]
    rw [hM35]
    exact ⟨rfl, (Ex.trans hf24 hE31)⟩
   ·refine CW.cond_f rfl hb32 (CW.skip (bn (tn (CW.region (sd rfl (yl_inc rfl rfl rfl (by omega) (sd rfl (yl_move rfl rfl (dn ?_)))))))))
    have hB37 : B_g_slices_IndexFunc_Row_0 p_s p_f k9 () = .cont () := by simp only [B_g_slices_IndexFunc_Row_0, hb32, cL]
    exact ⟨p_s.length - (k9 + 1), by omega, k9 + 1, rfl, hlt26, (by omega), rfl, rfl, rfl, rfl, (RdS.ex good_Row hf23 hE31), (Ex.trans hf24 hE31), (loopM.cont hlt26 hB37).symm.trans hI17⟩
  ·refine CW.seq (CW.region (sd rfl (yl_lss rfl rfl rfl (dn (CW.seq (CW.cond_f rfl (lt_f hlt26) (CW.exit (tx ?_))))))))
   refine tx ?_
   have hL40 : loopM (B_g_slices_IndexFunc_Row_0 p_s p_f) (p_s.length - 0) 0 () = .done () := hI17.symm.trans (loopM.stop hlt26)
   refine bx (tn (CW.seq (CW.region (sd rfl (yl_assign rfl rfl (dn (CW.ret (rr rfl (.cons rfl .nil) ?_))))))))
   have hM41 : (g_slices_IndexFunc_Row p_s p_f) = (-1) := by simp only [g_slices_IndexFunc_Row, hL40, cL]
   rw [hM41]
   exact ⟨rfl, hf24⟩
theorem c_g_slices_ContainsFunc_Row {A1 : Option Addr} {c1 : Nat} {g3 : Nat} {cp4 : List Value} {w : World} (p_s : List DRow) (p_f : DRow → Bool) (h1 : RdS w (Iv 0 w.heap.size) R_Row 1 A1 p_s.length c1 p_s) (hen5 : Go.X.Enters Tryz.prog g3) (hfn6 : ∀ (w1 : World) (y0 : DRow) {A7 : Option Addr} {c7 : Nat}, Ex w w1 → y0 ∈ p_s → RdS w1 (Iv 0 w1.heap.size) (RF e_Str) 1 A7 y0.Vals.length c7 y0.Vals → ok_Row y0 → Cal Tryz.prog g3 (([.agg #[.slice A7 y0.Vals.length c7]] : List Value) ++ cp4).toArray w1 fun v w2 => v = .bool (p_f y0) ∧ Ex w1 w2) (o2 : (okL ok_Row) p_s) : Cal Tryz.prog 51 #[.slice A1 p_s.length c1, .func (.func g3) #[] cp4.toArray] w fun v w' => v = .bool ((g_slices_ContainsFunc_Row p_s p_f)) ∧ Ex w w' := by
 refine Cal.of func51 rfl ntmps51 rfl (CW.seq (CW.region (sd rfl (yl_assign rfl rfl (dn (CW.seq (CW.region (sd rfl (yl_move rfl rfl ?_)))))))))
 refine sd rfl (yl_move rfl rfl (sd rfl (yl_call en87 rfl (oc rfl (oc rfl oz)) (Cal.mono (c_g_slices_IndexFunc_Row p_s p_f (RdS.up h1 good_Row) hen5 (fun w1 y0 => fun hE => hfn6 w1 y0 (Ex.trans (Ex.refl w) hE)) o2) ?_))))
 rintro v10 w9 ⟨rfl, hE11⟩
 refine sd rfl (yl_geq rfl rfl rfl (sd rfl (yl_assign rfl rfl (dn (CW.ret (rr rfl (.cons rfl .nil) ?_))))))
 have hM12 : (g_slices_ContainsFunc_Row p_s p_f) = (decide (0 ≤ (g_slices_IndexFunc_Row p_s p_f))) := by simp only [g_slices_ContainsFunc_Row, cL]
 rw [hM12]
 exact ⟨rfl, (Ex.trans (Ex.refl w) hE11)⟩
theorem c_i_Table_idxKey {A1 : Option Addr} {c1 : Nat} {A2 : Option Addr} {c2 : Nat} {A5 : Option Addr} {c5 : Nat} {w : World} (p_t : DTable) (p_name : Str) (p_r : DRow) (h1 : RdS w (Iv 0 w.heap.size) (RF e_Str) 1 A1 p_t.Cols.length c1 p_t.Cols) (h2 : RdS w (Iv 0 w.heap.size) (RF e_Idx) 3 A2 p_t.Idxs.length c2 p_t.Idxs) (h5 : RdS w (Iv 0 w.heap.size) (RF e_Str) 1 A5 p_r.Vals.length c5 p_r.Vals) (o3 : ok_Table p_t) (o4 : okS p_name) (o6 : ok_Row p_r) (pre0 : (0 ≤ i_Table_findIdx p_t p_name ∧ i_Table_findIdx p_t p_name < (p_t.Idxs.length : Int))) (pre1 : (0 ≤ (i_Table_idx p_t p_name).Col ∧ (i_Table_idx p_t p_name).Col < (p_r.Vals.length : Int))) (pre2 : (p_t.Name.length ≤ 1 ∧ p_name.length ≤ 1)) (pre3 : rowShort p_r) : Cal Tryz.prog 55 #[.agg #[.string (bs (p_t.Name)), .slice A1 p_t.Cols.length c1, .slice A2 p_t.Idxs.length c2], .string (bs (p_name)), .agg #[.slice A5 p_r.Vals.length c5]] w fun v w' => v = .string (bs ((i_Table_idxKey p_t p_name p_r))) ∧ okS (i_Table_idxKey p_t p_name p_r) ∧ Ex w w' := by
 have hol7 : p_t.Name.length ≤ 1073741824 := o3.1
 have hol8 := o3.2.1.1
 have hol9 := o3.2.2.1
 have hol10 : p_name.length ≤ 1073741824 := o4
 have hol11 := o6.1
 refine Cal.of func55 rfl ntmps55 rfl (CW.seq (CW.region (sd rfl (yl_box rfl rfl rfl ?_))))
 intro b12 w13 hs14 hz15 hB16 hE17
 refine sd rfl (yl_box rfl rfl rfl ?_)
 intro b18 w19 hs20 hz21 hB22 hE23
 refine sd rfl (yl_assign rfl rfl (dn (CW.seq ?_)))
 have q24 := Box.ex hB16 hE23
 have q26 := RdS.ex good_Str (RdS.ex good_Str h1 hE17) hE23
 have q28 := RdS.ex good_Idx (RdS.ex good_Idx h2 hE17) hE23
 have q33 := RdS.ex good_Str (RdS.ex good_Str h5 hE17) hE23
 obtain ⟨eb34, eo34, _, eA34, _, ebl34, _, eR34, eC34⟩ := RdS.atD q33 d_Str (i := ((i_Table_idx p_t p_name).Col).toNat) (by first | omega | assumption | (simp only [wI] at *; omega))
 obtain rfl := eR34
 have eC34 : Cells w19 eb34 (eo34 + (((i_Table_idx p_t p_name).Col).toNat) * 1) [.string (bs ((p_r.Vals.getD (((i_Table_idx p_t p_name).Col).toNat) d_Str)))] := eC34
 have hol35 : (p_r.Vals.getD (((i_Table_idx p_t p_name).Col).toNat) d_Str).length ≤ 1073741824 := (okL.getD o6 ok_d_Str _)
 have hol36 : (p_r.Vals.getD (((i_Table_idx p_t p_name).Col).toNat) d_Str).length ≤ 1073741824 := (okL.getD o6 ok_d_Str _)
 obtain ⟨eb37, eo37, _, eA37, _, ebl37, _, eR37, eC37⟩ := RdS.aD q33 d_Str (i := 0)
 obtain rfl := eR37
 have eC37 : Cells w19 eb37 (eo37 + 0 * 1) [.string (bs ((p_r.Vals.getD 0 d_Str)))] := eC37
 have hol38 : (p_r.Vals.getD (((i_Table_idx p_t p_name).Col).toNat) d_Str).length ≤ 1073741824 := (okL.getD o6 ok_d_Str _)
 have hol39 : (p_r.Vals.getD 0 d_Str).length ≤ 1073741824 := (okL.getD o6 ok_d_Str _)
 have hrf40 := rf_idxHead p_t p_name
 refine CW.drawsI 19 (vgetI [DetI (.agg #[.string (bs (p_t.Name)), .slice A1 p_t.Cols.length c1, .slice A2 p_t.Idxs.length c2]), DetI (.string (bs (p_name))), DetI (.string (bs ((i_Table_idxHead p_t p_name)))), DetI (.pointer (some ⟨b18, 0 + 0, none⟩)), DetI (.slice A5 p_r.Vals.length c5), DetI (.agg #[.string (bs (p_t.Name)), .slice A1 p_t.Cols.length c1, .slice A2 p_t.Idxs.length c2]), DetI (.string (bs (p_name))), fun lo hi v wq => v = .agg #[.string (bs ((i_Table_idx p_t p_name).Name)), .int .i64 ((i_Table_idx p_t p_name).Col), .int .i64 ((i_Table_idx p_t p_name).Stage)] ∧ ok_Idx (i_Table_idx p_t p_name), DetI (.int .i64 ((i_Table_idx p_t p_name).Col)), DetI (.pointer (some ⟨eb34, eo34 + (((i_Table_idx p_t p_name).Col).toNat) * 1, none⟩)), DetI (.string (bs ((p_r.Vals.getD (((i_Table_idx p_t p_name).Col).toNat) d_Str)))), DetI (.string (bs ((i_Table_idxHead p_t p_name) ++ (p_r.Vals.getD (((i_Table_idx p_t p_name).Col).toNat) d_Str)))), DetI (.string (bs (((i_Table_idxHead p_t p_name) ++ (p_r.Vals.getD (((i_Table_idx p_t p_name).Col).toNat) d_Str)) ++ ([47] : Str)))), DetI (.pointer (some ⟨b18, 0 + 0, none⟩)), DetI (.slice A5 p_r.Vals.length c5), DetI (.pointer (some ⟨eb37, eo37 + 0 * 1, none⟩)), DetI (.string (bs ((p_r.Vals.getD 0 d_Str)))), DetI (.string (bs ((((i_Table_idxHead p_t p_name) ++ (p_r.Vals.getD (((i_Table_idx p_t p_name).Col).toNat) d_Str)) ++ ([47] : Str)) ++ (p_r.Vals.getD 0 d_Str)))), DetI (.string (bs ((((i_Table_idxHead p_t p_name) ++ (p_r.Vals.getD (((i_Table_idx p_t p_name).Col).toNat) d_Str)) ++ ([47] : Str)) ++ (p_r.Vals.getD 0 d_Str))))]) Tryz.follows rfl rfl rfl rfl rfl rfl (vgetI_stable ⟨StableI.det _, StableI.det _, StableI.det _, StableI.det _, StableI.det _, StableI.det _, StableI.det _, (fun _ _ _ _ _ ⟨hv, ho31⟩ e => ⟨hv, ho31⟩), StableI.det _, StableI.det _, StableI.det _, StableI.det _, StableI.det _, StableI.det _, StableI.det _, StableI.det _, StableI.det _, StableI.det _, StableI.det _, trivial⟩) ⟨?_, ?_, ?_, ?_, ?_, ?_, ?_, ?_, ?_, ?_, ?_, ?_, ?_, ?_, ?_, ?_, ?_, ?_, ?_, trivial⟩ ?_
 ·exact oI rfl fun h => yl_loadN ty34 rfl (h.old 3 _ rfl rfl) ((Box.ex q24 h.ex).cells (n := 3) rfl) rfl kI
 ·exact oI rfl fun h => yl_move rfl (h.old 1 _ rfl rfl) kI
 ·intro L52 w53 hi54
  have hE55 := hi54.ex
  exact OpR.op' rfl (yl_call en90 rfl (oc (hi54.dt 0 7 rfl rfl rfl) (oc (hi54.dt 1 8 rfl rfl rfl) oz)) (Cal.mono (c_i_Table_idxHead p_t p_name (RdS.up (RdS.ex good_Str q26 hE55) good_Str) (RdS.up (RdS.ex good_Idx q28 hE55) good_Idx) o3 o4) fun _ _ h => h))
 ·exact oI rfl fun h => yl_fieldAddr fd80_0 rfl (h.old 5 _ rfl rfl) kI
 ·exact oI rfl fun h => yl_load1 ty22 rfl (h.dt 3 10 rfl rfl rfl) (((Box.ex hB22 h.ex).cell 0).trans rfl) kI
 ·exact oI rfl fun h => yl_loadN ty34 rfl (h.old 3 _ rfl rfl) ((Box.ex q24 h.ex).cells (n := 3) rfl) rfl kI
 ·exact oI rfl fun h => yl_move rfl (h.old 1 _ rfl rfl) kI
 ·intro L85 w86 hi87
  have hE88 := hi87.ex
  have hE88z := Ex.size hE88
  refine OpR.op' rfl (yl_call en91 rfl (oc (hi87.dt 5 12 rfl rfl rfl) (oc (hi87.dt 6 13 rfl rfl rfl) oz)) (Cal.mono (c_i_Table_idx p_t p_name (RdS.up (RdS.ex good_Str q26 hE88) good_Str) (RdS.up (RdS.ex good_Idx q28 hE88) good_Idx) o3 o4 (by first | omega | assumption | (simp only [wI] at *; omega))) ?_))
  rintro v95 w93 ⟨rfl, ho94, hE96⟩
  exact ⟨⟨rfl, ho94⟩, hE96⟩
 ·intro L97 w98 hi99
  obtain ⟨lo102, hh103, _, hx101, hr104, hr105, hr106, rfl, h107⟩ := hi99.dep 7 14 rfl rfl
  exact os rfl ((yl_field1 fd104_1 rfl hx101 rfl kI))
 ·intro L108 w109 hi110
  have hE111 := hi110.ex
  have hE111z := Ex.size hE111
  exact os rfl ((yl_indexAddr un22 ty9 rfl (hi110.dt 4 11 rfl rfl rfl) (hi110.dt 8 15 rfl rfl rfl) eA34 (by first | omega | assumption | (simp only [wI] at *; omega)) (by first | omega | assumption | (simp only [wI] at *; omega)) kI))
 ·exact oI rfl fun h => yl_load1 ty9 rfl (h.dt 9 16 rfl rfl rfl) ((Cells.ex eC34 h.ex) 0 _ rfl) kI
 ·intro L120 w121 hi122
  have hE123 := hi122.ex
  have hE123z := Ex.size hE123
  have hol126 : (p_r.Vals.getD (((i_Table_idx p_t p_name).Col).toNat) d_Str).length ≤ 1073741824 := (okL.getD o6 ok_d_Str _)
  exact os rfl ((yl_sadd (a := (i_Table_idxHead p_t p_name)) (b := (p_r.Vals.getD (((i_Table_idx p_t p_name).Col).toNat) d_Str)) rfl (hi122.dt 2 9 rfl rfl rfl) (hi122.dt 10 17 rfl rfl rfl) (by first | omega | (simp only [List.length_append, List.length_cons, List.length_nil, List.length_take, List.length_drop, toS_length]; omega)) kI))
 ·intro L127 w128 hi129
  have hE130 := hi129.ex
  have hE130z := Ex.size hE130
  have hol132 : (p_r.Vals.getD (((i_Table_idx p_t p_name).Col).toNat) d_Str).length ≤ 1073741824 := (okL.getD o6 ok_d_Str _)
  exact os rfl ((yl_sadd (a := ((i_Table_idxHead p_t p_name) ++ (p_r.Vals.getD (((i_Table_idx p_t p_name).Col).toNat) d_Str))) (b := ([47] : Str)) rfl (hi129.dt 11 18 rfl rfl rfl) rfl (by first | omega | (simp only [List.length_append, List.length_cons, List.length_nil, List.length_take, List.length_drop, toS_length]; omega)) kI))
 ·exact oI rfl fun h => yl_fieldAddr fd80_0 rfl (h.old 5 _ rfl rfl) kI
 ·exact oI rfl fun h => yl_load1 ty22 rfl (h.dt 13 20 rfl rfl rfl) (((Box.ex hB22 h.ex).cell 0).trans rfl) kI
 ·intro L144 w145 hi146
  have hE147 := hi146.ex
  have hE147z := Ex.size hE147
  exact os rfl ((yl_ixN un22 ty9 rfl (hi146.dt 14 21 rfl rfl rfl) rfl eA37 kI))
 ·exact oI rfl fun h => yl_load1 ty9 rfl (h.dt 15 22 rfl rfl rfl) ((Cells.ex eC37 h.ex) 0 _ rfl) kI
 ·intro L155 w156 hi157
  have hE158 := hi157.ex
  have hE158z := Ex.size hE158
  have hol161 : (p_r.Vals.getD (((i_Table_idx p_t p_name).Col).toNat) d_Str).length ≤ 1073741824 := (okL.getD o6 ok_d_Str _)
  have hol162 : (p_r.Vals.getD 0 d_Str).length ≤ 1073741824 := (okL.getD o6 ok_d_Str _)
  exact os rfl ((yl_sadd (a := (((i_Table_idxHead p_t p_name) ++ (p_r.Vals.getD (((i_Table_idx p_t p_name).Col).toNat) d_Str)) ++ ([47] : Str))) (b := (p_r.Vals.getD 0 d_Str)) rfl (hi157.dt 12 19 rfl rfl rfl) (hi157.dt 16 23 rfl rfl rfl) (by first | omega | (simp only [List.length_append, List.length_cons, List.length_nil, List.length_take, List.length_drop, toS_length]; omega)) kI))
 ·exact oI rfl fun h => yl_assign rfl (h.dt 17 24 rfl rfl rfl) kI
 ·intro fl171 fh172 L168 w169 hp170
  have hE173 := hp170.ex
  have hE173z := Ex.size hE173
  refine dn (CW.sub (Sub.cons (d := 6) (hp170.nt 18 6 rfl rfl rfl) (Sub.nil _)) (CW.ret (rr rfl (.cons rfl .nil) ?_)))
  have hM175 : (i_Table_idxKey p_t p_name p_r) = ((((i_Table_idxHead p_t p_name) ++ (p_r.Vals.getD (((i_Table_idx p_t p_name).Col).toNat) d_Str)) ++ ([47] : Str)) ++ (p_r.Vals.getD 0 d_Str)) := by simp only [i_Table_idxKey, cL]
  rw [hM175]
  exact ⟨rfl, (okS_idxKey pre2 pre3), (Ex.trans (Ex.trans (Ex.trans (Ex.refl w) hE17) hE23) hE173)⟩
theorem c_i_IsFilled_c1 {A1 : Option Addr} {c1 : Nat} {A3 : Option Addr} {c3 : Nat} {A4 : Option Addr} {c4 : Nat} {A5 : Option Addr} {c5 : Nat} {b6 : Nat} {A9 : Option Addr} {c9 : Nat} {A10 : Option Addr} {c10 : Nat} {A11 : Option Addr} {c11 : Nat} {b12 : Nat} {A15 : Option Addr} {c15 : Nat} {b16 : Nat} {w : World} (p_r : DRow) (p_cap0 : DWork) (p_cap1 : DShift) (p_cap2 : List Str) (h1 : RdS w (Iv 0 w.heap.size) (RF e_Str) 1 A1 p_r.Vals.length c1 p_r.Vals) (h3 : RdS w (Iv 0 w.heap.size) R_Table 3 A3 p_cap0.Shift.Ways.length c3 p_cap0.Shift.Ways) (h4 : RdS w (Iv 0 w.heap.size) (RF e_Int) 1 A4 p_cap0.Shift.At.length c4 p_cap0.Shift.At) (h5 : RdS w (Iv 0 w.heap.size) (RF e_Write) 3 A5 p_cap0.Shift.Store.length c5 p_cap0.Shift.Store) (h7 : Box w b6 61 [.string (bs (p_cap0.Shift.Name)), .slice A3 p_cap0.Shift.Ways.length c3, .slice A4 p_cap0.Shift.At.length c4, .slice A5 p_cap0.Shift.Store.length c5, .string (bs (p_cap0.Up.Last)), .bool (p_cap0.Up.Over), .string (bs (p_cap0.Down.Last)), .bool (p_cap0.Down.Over)]) (h9 : RdS w (Iv 0 w.heap.size) R_Table 3 A9 p_cap1.Ways.length c9 p_cap1.Ways) (h10 : RdS w (Iv 0 w.heap.size) (RF e_Int) 1 A10 p_cap1.At.length c10 p_cap1.At) (h11 : RdS w (Iv 0 w.heap.size) (RF e_Write) 3 A11 p_cap1.Store.length c11 p_cap1.Store) (h13 : Box w b12 58 [.string (bs (p_cap1.Name)), .slice A9 p_cap1.Ways.length c9, .slice A10 p_cap1.At.length c10, .slice A11 p_cap1.Store.length c11]) (h15 : RdS w (Iv 0 w.heap.size) (RF e_Str) 1 A15 p_cap2.length c15 p_cap2) (h17 : Box w b16 22 [.slice A15 p_cap2.length c15]) (o2 : ok_Row p_r) (o8 : ok_Work p_cap0) (o14 : ok_Shift p_cap1) (o18 : (okL okS) p_cap2) (pre0 : ShiftOk p_cap1) (pre1 : s_l25Good (p_cap1.Ways.getD 0 d_Table) p_r = true) : Cal Tryz.prog 52 #[.agg #[.slice A1 p_r.Vals.length c1], .pointer (some ⟨b6, 0, none⟩), .pointer (some ⟨b12, 0, none⟩), .pointer (some ⟨b16, 0, none⟩)] w fun v w' => v = .bool ((i_IsFilled_c1 p_r p_cap0 p_cap1 p_cap2)) ∧ Ex w w' := by
 have hol19 := o2.1
 have hol20 : p_cap0.Shift.Name.length ≤ 1073741824 := o8.1.1
 have hol21 := o8.1.2.1.1
 have hol22 := o8.1.2.2.1.1
 have hol23 := o8.1.2.2.2.1
 have hol24 : p_cap0.Up.Last.length ≤ 1073741824 := o8.2.1
 have hol25 : p_cap0.Down.Last.length ≤ 1073741824 := o8.2.2
 have hol26 : p_cap1.Name.length ≤ 1073741824 := o14.1
 have hol27 := o14.2.1.1
 have hol28 := o14.2.2.1.1
 have hol29 := o14.2.2.2.1
 have hol30 := o18.1
 obtain ⟨hf1, hf2, hf3, hf4, hf5, hf6, hf7, hf8, hf9⟩ := f_filled pre0
 obtain ⟨hr1, hr2⟩ := f_s_l25Good pre1
 refine Cal.of func52 rfl ntmps52 rfl (CW.seq (CW.region (sd rfl (yl_box rfl rfl rfl ?_))))
 intro b31 w32 hs33 hz34 hB35 hE36
 refine sd rfl (yl_assign rfl rfl (dn (CW.seq (bcase (p_cap0.Up.Over) (fun hb38 => ?_) (fun hb38 => ?_)))))
 ·have q41 := Box.ex h13 hE36
  obtain ⟨eb43, eo43, _, eA43, _, ebl43, _, eR43, eC43⟩ := RdS.aD (RdS.ex good_Table h9 hE36) d_Table (i := 0)
  obtain ⟨A44, c44, A45, c45, rfl, h44, h45⟩ := eR43
  refine CW.drawsI 30 (vgetI [DetI (.pointer (some ⟨b6, 0 + 4, none⟩)), DetI (.pointer (some ⟨b6, 0 + 4 + 1, none⟩)), DetI (.bool (p_cap0.Up.Over)), DetI (.bool (p_cap0.Up.Over)), DetI (undef), DetI (undef), DetI (undef), DetI (undef), DetI (undef), DetI (undef), DetI (undef), DetI (undef), DetI (undef), DetI (undef), DetI (undef), DetI (.bool (true)), DetI (.bool (true)), DetI (.slice A15 p_cap2.length c15), DetI (.pointer (some ⟨b12, 0 + 1, none⟩)), DetI (.slice A9 p_cap1.Ways.length c9), DetI (.pointer (some ⟨eb43, eo43 + 0 * 3, none⟩)), DetI (.agg #[.string (bs ((p_cap1.Ways.getD 0 d_Table).Name)), .slice A44 (((p_cap1.Ways.getD 0 d_Table).Cols).length) c44, .slice A45 (((p_cap1.Ways.getD 0 d_Table).Idxs).length) c45]), DetI (.pointer (some ⟨b12, 0 + 0, none⟩)), DetI (.string (bs (p_cap1.Name))), DetI (.agg #[.slice A1 p_r.Vals.length c1]), fun lo hi v wq => v = .string (bs ((i_Table_idxKey (p_cap1.Ways.getD 0 d_Table) p_cap1.Name p_r))) ∧ okS (i_Table_idxKey (p_cap1.Ways.getD 0 d_Table) p_cap1.Name p_r), DetI (.bool ((g_slices_Contains_string p_cap2 (i_Table_idxKey (p_cap1.Ways.getD 0 d_Table) p_cap1.Name p_r)))), DetI (.bool (!(g_slices_Contains_string p_cap2 (i_Table_idxKey (p_cap1.Ways.getD 0 d_Table) p_cap1.Name p_r)))), DetI (.bool (!(g_slices_Contains_string p_cap2 (i_Table_idxKey (p_cap1.Ways.getD 0 d_Table) p_cap1.Name p_r)))), DetI (.bool (!(g_slices_Contains_string p_cap2 (i_Table_idxKey (p_cap1.Ways.getD 0 d_Table) p_cap1.Name p_r))))]) Tryz.follows rfl rfl rfl rfl rfl rfl (vgetI_stable ⟨StableI.det _, StableI.det _, StableI.det _, StableI.det _, StableI.det _, StableI.det _, StableI.det _, StableI.det _, StableI.det _, StableI.det _, StableI.det _, StableI.det _, StableI.det _, StableI.det _, StableI.det _, StableI.det _, StableI.det _, StableI.det _, StableI.det _, StableI.det _, StableI.det _, StableI.det _, StableI.det _, StableI.det _, StableI.det _, (fun _ _ _ _ _ ⟨hv, ho48⟩ e => ⟨hv, ho48⟩), StableI.det _, StableI.det _, StableI.det _, StableI.det _, trivial⟩) ⟨?_, ?_, ?_, ?_, ?_, ?_, ?_, ?_, ?_, ?_, ?_, ?_, ?_, ?_, ?_, ?_, ?_, ?_, ?_, ?_, ?_, ?_, ?_, ?_, ?_, ?_, ?_, ?_, ?_, ?_, trivial⟩ ?_
  ·exact oI rfl fun h => yl_fieldAddr fd61_1 rfl (h.old 1 _ rfl rfl) kI
  ·exact oI rfl fun h => yl_fieldAddr fd59_1 rfl (h.dt 0 6 rfl rfl rfl) kI
  ·exact oI rfl fun h => yl_load1 ty4 rfl (h.dt 1 7 rfl rfl rfl) (((Box.ex (Box.ex h7 hE36) h.ex).cell 5).trans rfl) kI
  ·exact oI rfl fun h => yl_move rfl (h.dt 2 8 rfl rfl rfl) kI
  ·exact oS rfl rfl rfl rfl rfl hb38
  ·exact oS rfl rfl rfl rfl rfl hb38
  ·exact oS rfl rfl rfl rfl rfl hb38
  ·exact oS rfl rfl rfl rfl rfl hb38
  ·exact oS rfl rfl rfl rfl rfl hb38
  ·exact oS rfl rfl rfl rfl rfl hb38
  ·exact oS rfl rfl rfl rfl rfl hb38
  ·exact oS rfl rfl rfl rfl rfl hb38
  ·exact oS rfl rfl rfl rfl rfl hb38
  ·exact oS rfl rfl rfl rfl rfl hb38
  ·exact oS rfl rfl rfl rfl rfl hb38
  ·exact oI rfl fun h => yl_pick_t rfl (h.dt 3 9 rfl rfl rfl) hb38 rfl kI
  ·exact oI rfl fun h => yl_move rfl (h.dt 15 21 rfl rfl rfl) kI
  ·exact oW rfl rfl rfl rfl rfl fun h => yl_load1 ty22 rfl (h.old 3 _ rfl rfl) (((Box.ex (Box.ex h17 hE36) h.ex).cell 0).trans rfl) kI
  ·exact oW rfl rfl rfl rfl rfl fun h => yl_fieldAddr fd58_1 rfl (h.old 2 _ rfl rfl) kI
  ·exact oW rfl rfl rfl rfl rfl fun h => yl_load1 ty56 rfl (h.dt 18 24 rfl rfl rfl) (((Box.ex q41 h.ex).cell 1).trans rfl) kI
  ·intro L158 w159 hi160
   have hE161 := hi160.ex
   have hE161z := Ex.size hE161
   exact OpR.want rfl rfl (hi160.dt 16 22 rfl rfl rfl) rfl (Yl.sameI (yl_ixN un56 ty34 rfl (hi160.dt 19 25 rfl rfl rfl) rfl eA43 kI))
  ·exact oW rfl rfl rfl rfl rfl fun h => yl_loadN ty34 rfl (h.dt 20 26 rfl rfl rfl) (Cells.ex eC43 h.ex) rfl kI
  ·exact oW rfl rfl rfl rfl rfl fun h => yl_fieldAddr fd58_0 rfl (h.old 2 _ rfl rfl) kI
  ·exact oW rfl rfl rfl rfl rfl fun h => yl_load1 ty9 rfl (h.dt 22 28 rfl rfl rfl) (((Box.ex q41 h.ex).cell 0).trans rfl) kI
  ·exact oW rfl rfl rfl rfl rfl fun h => yl_loadN ty80 rfl (h.old 4 _ rfl rfl) ((Box.ex hB35 h.ex).cells (n := 1) rfl) rfl kI
  ·intro L191 w192 hi193
   have hE194 := hi193.ex
   have hE194z := Ex.size hE194
   refine OpR.want rfl rfl (hi193.dt 16 22 rfl rfl rfl) rfl (yl_call en55 rfl (oc (hi193.dt 21 27 rfl rfl rfl) (oc (hi193.dt 23 29 rfl rfl rfl) (oc (hi193.dt 24 30 rfl rfl rfl) oz))) (Cal.mono (c_i_Table_idxKey (p_cap1.Ways.getD 0 d_Table) p_cap1.Name p_r (RdS.up (RdS.ex good_Str h44 hE194) good_Str) (RdS.up (RdS.ex good_Idx h45 hE194) good_Idx) (RdS.up (RdS.ex good_Str (RdS.ex good_Str h1 hE36) hE194) good_Str) (okL.getD o14.2.1 ok_d_Table _) o14.1 o2 (by first | omega | assumption | (simp only [wI] at *; omega)) (by first | omega | assumption | (simp only [wI] at *; omega)) (by first | omega | assumption | (simp only [wI] at *; omega)) (by first | omega | assumption | (simp only [wI] at *; omega))) ?_))
   rintro v204 w202 ⟨rfl, ho203, hE205⟩
   exact ⟨⟨rfl, ho203⟩, hE205⟩
  ·intro L206 w207 hi208
   have hE209 := hi208.ex
   obtain ⟨lo213, hh214, _, hx212, hr215, hr216, hr217, rfl, h218⟩ := hi208.dep 25 31 rfl rfl
   exact OpR.want rfl rfl (hi208.dt 16 22 rfl rfl rfl) rfl (yl_call en54 rfl (oc (hi208.dt 17 23 rfl rfl rfl) (oc hx212 oz)) (Cal.mono (c_g_slices_Contains_string p_cap2 (i_Table_idxKey (p_cap1.Ways.getD 0 d_Table) p_cap1.Name p_r) (RdS.up (RdS.ex good_Str (RdS.ex good_Str h15 hE36) hE209) good_Str) o18 h218) fun _ _ h => h))
  ·exact oW rfl rfl rfl rfl rfl fun h => yl_not rfl (h.dt 26 32 rfl rfl rfl) kI
  ·exact oI rfl fun h => yl_pick_t rfl (h.dt 16 22 rfl rfl rfl) rfl (h.dt 27 33 rfl rfl rfl) kI
  ·exact oI rfl fun h => yl_assign rfl (h.dt 28 34 rfl rfl rfl) kI
  ·intro fl243 fh244 L240 w241 hp242
   have hE245 := hp242.ex
   have hE245z := Ex.size hE245
   refine dn (CW.sub (Sub.cons (d := 5) (hp242.nt 29 5 rfl rfl rfl) (Sub.nil _)) (CW.ret (rr rfl (.cons rfl .nil) ?_)))
   have hM247 : (i_IsFilled_c1 p_r p_cap0 p_cap1 p_cap2) = (!(g_slices_Contains_string p_cap2 (i_Table_idxKey (p_cap1.Ways.getD 0 d_Table) p_cap1.Name p_r))) := by simp only [i_IsFilled_c1, hb38, cL]
   rw [hM247]
   exact ⟨rfl, (Ex.trans (Ex.trans (Ex.refl w) hE36) hE245)⟩
 ·obtain ⟨_, _, _, _, _, ebl253, _, eR253, _⟩ := RdS.aD (RdS.ex good_Table h9 hE36) d_Table (i := 0)
  obtain ⟨A254, c254, A255, c255, rfl, h254, h255⟩ := eR253
  refine bcase (sLe ((i_Table_rowWrite (p_cap1.Ways.getD 0 d_Table) p_r).Key) p_cap0.Up.Last) (fun hb258 => ?_) (fun hb258 => ?_)
  ·have q259 := Box.ex h7 hE36
   have q260 := Box.ex h13 hE36
   obtain ⟨eb262, eo262, _, eA262, _, ebl262, _, eR262, eC262⟩ := RdS.aD (RdS.ex good_Table h9 hE36) d_Table (i := 0)
   obtain ⟨A263, c263, A264, c264, rfl, h263, h264⟩ := eR262
   have q265 := RdS.ex good_Str h1 hE36
   refine CW.drawsI 30 (vgetI [DetI (.pointer (some ⟨b6, 0 + 4, none⟩)), DetI (.pointer (some ⟨b6, 0 + 4 + 1, none⟩)), DetI (.bool (p_cap0.Up.Over)), DetI (.bool (p_cap0.Up.Over)), DetI (.pointer (some ⟨b12, 0 + 1, none⟩)), DetI (.slice A9 p_cap1.Ways.length c9), DetI (.pointer (some ⟨eb262, eo262 + 0 * 3, none⟩)), DetI (.agg #[.string (bs ((p_cap1.Ways.getD 0 d_Table).Name)), .slice A263 (((p_cap1.Ways.getD 0 d_Table).Cols).length) c263, .slice A264 (((p_cap1.Ways.getD 0 d_Table).Idxs).length) c264]), DetI (.agg #[.slice A1 p_r.Vals.length c1]), DetI (.agg #[.string (bs ((i_Table_rowWrite (p_cap1.Ways.getD 0 d_Table) p_r).Key)), .string (bs ((i_Table_rowWrite (p_cap1.Ways.getD 0 d_Table) p_r).Val)), .bool ((i_Table_rowWrite (p_cap1.Ways.getD 0 d_Table) p_r).Gone)]), DetI (.string (bs ((i_Table_rowWrite (p_cap1.Ways.getD 0 d_Table) p_r).Key))), DetI (.pointer (some ⟨b6, 0 + 4, none⟩)), DetI (.pointer (some ⟨b6, 0 + 4 + 0, none⟩)), DetI (.string (bs (p_cap0.Up.Last))), DetI (.bool (sLe ((i_Table_rowWrite (p_cap1.Ways.getD 0 d_Table) p_r).Key) p_cap0.Up.Last)), DetI (.bool (sLe ((i_Table_rowWrite (p_cap1.Ways.getD 0 d_Table) p_r).Key) p_cap0.Up.Last)), DetI (.bool (sLe ((i_Table_rowWrite (p_cap1.Ways.getD 0 d_Table) p_r).Key) p_cap0.Up.Last)), DetI (.slice A15 p_cap2.length c15), DetI (.pointer (some ⟨b12, 0 + 1, none⟩)), DetI (.slice A9 p_cap1.Ways.length c9), DetI (.pointer (some ⟨eb262, eo262 + 0 * 3, none⟩)), DetI (.agg #[.string (bs ((p_cap1.Ways.getD 0 d_Table).Name)), .slice A263 (((p_cap1.Ways.getD 0 d_Table).Cols).length) c263, .slice A264 (((p_cap1.Ways.getD 0 d_Table).Idxs).length) c264]), DetI (.pointer (some ⟨b12, 0 + 0, none⟩)), DetI (.string (bs (p_cap1.Name))), DetI (.agg #[.slice A1 p_r.Vals.length c1]), fun lo hi v wq => v = .string (bs ((i_Table_idxKey (p_cap1.Ways.getD 0 d_Table) p_cap1.Name p_r))) ∧ okS (i_Table_idxKey (p_cap1.Ways.getD 0 d_Table) p_cap1.Name p_r), DetI (.bool ((g_slices_Contains_string p_cap2 (i_Table_idxKey (p_cap1.Ways.getD 0 d_Table) p_cap1.Name p_r)))), DetI (.bool (!(g_slices_Contains_string p_cap2 (i_Table_idxKey (p_cap1.Ways.getD 0 d_Table) p_cap1.Name p_r)))), DetI (.bool (!(g_slices_Contains_string p_cap2 (i_Table_idxKey (p_cap1.Ways.getD 0 d_Table) p_cap1.Name p_r)))), DetI (.bool (!(g_slices_Contains_string p_cap2 (i_Table_idxKey (p_cap1.Ways.getD 0 d_Table) p_cap1.Name p_r))))]) Tryz.follows rfl rfl rfl rfl rfl rfl (vgetI_stable ⟨StableI.det _, StableI.det _, StableI.det _, StableI.det _, StableI.det _, StableI.det _, StableI.det _, StableI.det _, StableI.det _, StableI.det _, StableI.det _, StableI.det _, StableI.det _, StableI.det _, StableI.det _, StableI.det _, StableI.det _, StableI.det _, StableI.det _, StableI.det _, StableI.det _, StableI.det _, StableI.det _, StableI.det _, StableI.det _, (fun _ _ _ _ _ ⟨hv, ho269⟩ e => ⟨hv, ho269⟩), StableI.det _, StableI.det _, StableI.det _, StableI.det _, trivial⟩) ⟨?_, ?_, ?_, ?_, ?_, ?_, ?_, ?_, ?_, ?_, ?_, ?_, ?_, ?_, ?_, ?_, ?_, ?_, ?_, ?_, ?_, ?_, ?_, ?_, ?_, ?_, ?_, ?_, ?_, ?_, trivial⟩ ?_
   ·exact oI rfl fun h => yl_fieldAddr fd61_1 rfl (h.old 1 _ rfl rfl) kI
   ·exact oI rfl fun h => yl_fieldAddr fd59_1 rfl (h.dt 0 6 rfl rfl rfl) kI
   ·exact oI rfl fun h => yl_load1 ty4 rfl (h.dt 1 7 rfl rfl rfl) (((Box.ex q259 h.ex).cell 5).trans rfl) kI
   ·exact oI rfl fun h => yl_move rfl (h.dt 2 8 rfl rfl rfl) kI
   ·exact oW rfl rfl rfl rfl hb38 fun h => yl_fieldAddr fd58_1 rfl (h.old 2 _ rfl rfl) kI
   ·exact oW rfl rfl rfl rfl hb38 fun h => yl_load1 ty56 rfl (h.dt 4 10 rfl rfl rfl) (((Box.ex q260 h.ex).cell 1).trans rfl) kI
   ·intro L306 w307 hi308
    have hE309 := hi308.ex
    have hE309z := Ex.size hE309
    exact OpR.want rfl rfl (hi308.dt 3 9 rfl rfl rfl) hb38 (Yl.sameI (yl_ixN un56 ty34 rfl (hi308.dt 5 11 rfl rfl rfl) rfl eA262 kI))
   ·exact oW rfl rfl rfl rfl hb38 fun h => yl_loadN ty34 rfl (h.dt 6 12 rfl rfl rfl) (Cells.ex eC262 h.ex) rfl kI
   ·exact oW rfl rfl rfl rfl hb38 fun h => yl_loadN ty80 rfl (h.old 4 _ rfl rfl) ((Box.ex hB35 h.ex).cells (n := 1) rfl) rfl kI
   ·intro L326 w327 hi328
    have hE329 := hi328.ex
    have hE329z := Ex.size hE329
    exact OpR.want rfl rfl (hi328.dt 3 9 rfl rfl rfl) hb38 (yl_call en53 rfl (oc (hi328.dt 7 13 rfl rfl rfl) (oc (hi328.dt 8 14 rfl rfl rfl) oz)) (Cal.mono (c_i_Table_rowWrite (p_cap1.Ways.getD 0 d_Table) p_r (RdS.up (RdS.ex good_Str h263 hE329) good_Str) (RdS.up (RdS.ex good_Idx h264 hE329) good_Idx) (RdS.up (RdS.ex good_Str q265 hE329) good_Str) (okL.getD o14.2.1 ok_d_Table _) o2 (by first | omega | assumption | (simp only [wI] at *; omega)) (by first | omega | assumption | (simp only [wI] at *; omega)) (by first | omega | assumption | (simp only [wI] at *; omega))) fun _ _ h => h))
   ·exact oW rfl rfl rfl rfl hb38 fun h => yl_field1 fd75_0 rfl (h.dt 9 15 rfl rfl rfl) rfl kI
   ·exact oW rfl rfl rfl rfl hb38 fun h => yl_fieldAddr fd61_1 rfl (h.old 1 _ rfl rfl) kI
   ·exact oW rfl rfl rfl rfl hb38 fun h => yl_fieldAddr fd59_0 rfl (h.dt 11 17 rfl rfl rfl) kI
   ·exact oW rfl rfl rfl rfl hb38 fun h => yl_load1 ty9 rfl (h.dt 12 18 rfl rfl rfl) (((Box.ex q259 h.ex).cell 4).trans rfl) kI
   ·exact oW rfl rfl rfl rfl hb38 fun h => yl_sleq (a := ((i_Table_rowWrite (p_cap1.Ways.getD 0 d_Table) p_r).Key)) (b := p_cap0.Up.Last) rfl (h.dt 10 16 rfl rfl rfl) (h.dt 13 19 rfl rfl rfl) kI
   ·exact oI rfl fun h => yl_pick_f rfl (h.dt 3 9 rfl rfl rfl) hb38 (h.dt 14 20 rfl rfl rfl) kI
   ·exact oI rfl fun h => yl_move rfl (h.dt 15 21 rfl rfl rfl) kI
   ·exact oW rfl rfl rfl rfl hb258 fun h => yl_load1 ty22 rfl (h.old 3 _ rfl rfl) (((Box.ex (Box.ex h17 hE36) h.ex).cell 0).trans rfl) kI
   ·exact oW rfl rfl rfl rfl hb258 fun h => yl_fieldAddr fd58_1 rfl (h.old 2 _ rfl rfl) kI
   ·exact oW rfl rfl rfl rfl hb258 fun h => yl_load1 ty56 rfl (h.dt 18 24 rfl rfl rfl) (((Box.ex q260 h.ex).cell 1).trans rfl) kI
   ·intro L402 w403 hi404
    have hE405 := hi404.ex
    have hE405z := Ex.size hE405
    exact OpR.want rfl rfl (hi404.dt 16 22 rfl rfl rfl) hb258 (Yl.sameI (yl_ixN un56 ty34 rfl (hi404.dt 19 25 rfl rfl rfl) rfl eA262 kI))
   ·exact oW rfl rfl rfl rfl hb258 fun h => yl_loadN ty34 rfl (h.dt 20 26 rfl rfl rfl) (Cells.ex eC262 h.ex) rfl kI
   ·exact oW rfl rfl rfl rfl hb258 fun h => yl_fieldAddr fd58_0 rfl (h.old 2 _ rfl rfl) kI
   ·exact oW rfl rfl rfl rfl hb258 fun h => yl_load1 ty9 rfl (h.dt 22 28 rfl rfl rfl) (((Box.ex q260 h.ex).cell 0).trans rfl) kI
   ·exact oW rfl rfl rfl rfl hb258 fun h => yl_loadN ty80 rfl (h.old 4 _ rfl rfl) ((Box.ex hB35 h.ex).cells (n := 1) rfl) rfl kI
   ·intro L435 w436 hi437
    have hE438 := hi437.ex
    have hE438z := Ex.size hE438
    refine OpR.want rfl rfl (hi437.dt 16 22 rfl rfl rfl) hb258 (yl_call en55 rfl (oc (hi437.dt 21 27 rfl rfl rfl) (oc (hi437.dt 23 29 rfl rfl rfl) (oc (hi437.dt 24 30 rfl rfl rfl) oz))) (Cal.mono (c_i_Table_idxKey (p_cap1.Ways.getD 0 d_Table) p_cap1.Name p_r (RdS.up (RdS.ex good_Str h263 hE438) good_Str) (RdS.up (RdS.ex good_Idx h264 hE438) good_Idx) (RdS.up (RdS.ex good_Str q265 hE438) good_Str) (okL.getD o14.2.1 ok_d_Table _) o14.1 o2 (by first | omega | assumption | (simp only [wI] at *; omega)) (by first | omega | assumption | (simp only [wI] at *; omega)) (by first | omega | assumption | (simp only [wI] at *; omega)) (by first | omega | assumption | (simp only [wI] at *; omega))) ?_))
    rintro v448 w446 ⟨rfl, ho447, hE449⟩
    exact ⟨⟨rfl, ho447⟩, hE449⟩
   ·intro L450 w451 hi452
    have hE453 := hi452.ex
    obtain ⟨lo457, hh458, _, hx456, hr459, hr460, hr461, rfl, h462⟩ := hi452.dep 25 31 rfl rfl
    exact OpR.want rfl rfl (hi452.dt 16 22 rfl rfl rfl) hb258 (yl_call en54 rfl (oc (hi452.dt 17 23 rfl rfl rfl) (oc hx456 oz)) (Cal.mono (c_g_slices_Contains_string p_cap2 (i_Table_idxKey (p_cap1.Ways.getD 0 d_Table) p_cap1.Name p_r) (RdS.up (RdS.ex good_Str (RdS.ex good_Str h15 hE36) hE453) good_Str) o18 h462) fun _ _ h => h))
   ·exact oW rfl rfl rfl rfl hb258 fun h => yl_not rfl (h.dt 26 32 rfl rfl rfl) kI
   ·exact oI rfl fun h => yl_pick_t rfl (h.dt 16 22 rfl rfl rfl) hb258 (h.dt 27 33 rfl rfl rfl) kI
   ·exact oI rfl fun h => yl_assign rfl (h.dt 28 34 rfl rfl rfl) kI
   ·intro fl487 fh488 L484 w485 hp486
    have hE489 := hp486.ex
    have hE489z := Ex.size hE489
    refine dn (CW.sub (Sub.cons (d := 5) (hp486.nt 29 5 rfl rfl rfl) (Sub.nil _)) (CW.ret (rr rfl (.cons rfl .nil) ?_)))
    have hM491 : (i_IsFilled_c1 p_r p_cap0 p_cap1 p_cap2) = (!(g_slices_Contains_string p_cap2 (i_Table_idxKey (p_cap1.Ways.getD 0 d_Table) p_cap1.Name p_r))) := by simp only [i_IsFilled_c1, hb38, hb258, cL]
    rw [hM491]
    exact ⟨rfl, (Ex.trans (Ex.trans (Ex.refl w) hE36) hE489)⟩
  ·have q494 := Box.ex h7 hE36
   obtain ⟨eb497, eo497, _, eA497, _, ebl497, _, eR497, eC497⟩ := RdS.aD (RdS.ex good_Table h9 hE36) d_Table (i := 0)
   obtain ⟨A498, c498, A499, c499, rfl, h498, h499⟩ := eR497
   refine CW.drawsI 30 (vgetI ([.pointer (some ⟨b6, 0 + 4, none⟩), .pointer (some ⟨b6, 0 + 4 + 1, none⟩), .bool (p_cap0.Up.Over), .bool (p_cap0.Up.Over), .pointer (some ⟨b12, 0 + 1, none⟩), .slice A9 p_cap1.Ways.length c9, .pointer (some ⟨eb497, eo497 + 0 * 3, none⟩), .agg #[.string (bs ((p_cap1.Ways.getD 0 d_Table).Name)), .slice A498 (((p_cap1.Ways.getD 0 d_Table).Cols).length) c498, .slice A499 (((p_cap1.Ways.getD 0 d_Table).Idxs).length) c499], .agg #[.slice A1 p_r.Vals.length c1], .agg #[.string (bs ((i_Table_rowWrite (p_cap1.Ways.getD 0 d_Table) p_r).Key)), .string (bs ((i_Table_rowWrite (p_cap1.Ways.getD 0 d_Table) p_r).Val)), .bool ((i_Table_rowWrite (p_cap1.Ways.getD 0 d_Table) p_r).Gone)], .string (bs ((i_Table_rowWrite (p_cap1.Ways.getD 0 d_Table) p_r).Key)), .pointer (some ⟨b6, 0 + 4, none⟩), .pointer (some ⟨b6, 0 + 4 + 0, none⟩), .string (bs (p_cap0.Up.Last)), .bool (sLe ((i_Table_rowWrite (p_cap1.Ways.getD 0 d_Table) p_r).Key) p_cap0.Up.Last), .bool (sLe ((i_Table_rowWrite (p_cap1.Ways.getD 0 d_Table) p_r).Key) p_cap0.Up.Last), .bool (sLe ((i_Table_rowWrite (p_cap1.Ways.getD 0 d_Table) p_r).Key) p_cap0.Up.Last), undef, undef, undef, undef, undef, undef, undef, undef, undef, undef, undef, .bool (false), .bool (false)].map DetI)) Tryz.follows rfl rfl rfl rfl rfl rfl (vgetI_stable (stD _)) ⟨?_, ?_, ?_, ?_, ?_, ?_, ?_, ?_, ?_, ?_, ?_, ?_, ?_, ?_, ?_, ?_, ?_, ?_, ?_, ?_, ?_, ?_, ?_, ?_, ?_, ?_, ?_, ?_, ?_, ?_, trivial⟩ ?_
   ·exact oI rfl fun h => yl_fieldAddr fd61_1 rfl (h.old 1 _ rfl rfl) kI
   ·exact oI rfl fun h => yl_fieldAddr fd59_1 rfl (h.dt 0 6 rfl rfl rfl) kI
   ·exact oI rfl fun h => yl_load1 ty4 rfl (h.dt 1 7 rfl rfl rfl) (((Box.ex q494 h.ex).cell 5).trans rfl) kI
   ·exact oI rfl fun h => yl_move rfl (h.dt 2 8 rfl rfl rfl) kI
   ·exact oW rfl rfl rfl rfl hb38 fun h => yl_fieldAddr fd58_1 rfl (h.old 2 _ rfl rfl) kI
   ·exact oW rfl rfl rfl rfl hb38 fun h => yl_load1 ty56 rfl (h.dt 4 10 rfl rfl rfl) (((Box.ex (Box.ex h13 hE36) h.ex).cell 1).trans rfl) kI
   ·intro L536 w537 hi538
    have hE539 := hi538.ex
    have hE539z := Ex.size hE539
    exact OpR.want rfl rfl (hi538.dt 3 9 rfl rfl rfl) hb38 (Yl.sameI (yl_ixN un56 ty34 rfl (hi538.dt 5 11 rfl rfl rfl) rfl eA497 kI))
   ·exact oW rfl rfl rfl rfl hb38 fun h => yl_loadN ty34 rfl (h.dt 6 12 rfl rfl rfl) (Cells.ex eC497 h.ex) rfl kI
   ·exact oW rfl rfl rfl rfl hb38 fun h => yl_loadN ty80 rfl (h.old 4 _ rfl rfl) ((Box.ex hB35 h.ex).cells (n := 1) rfl) rfl kI
   ·intro L556 w557 hi558
    have hE559 := hi558.ex
    have hE559z := Ex.size hE559
    exact OpR.want rfl rfl (hi558.dt 3 9 rfl rfl rfl) hb38 (yl_call en53 rfl (oc (hi558.dt 7 13 rfl rfl rfl) (oc (hi558.dt 8 14 rfl rfl rfl) oz)) (Cal.mono (c_i_Table_rowWrite (p_cap1.Ways.getD 0 d_Table) p_r (RdS.up (RdS.ex good_Str h498 hE559) good_Str) (RdS.up (RdS.ex good_Idx h499 hE559) good_Idx) (RdS.up (RdS.ex good_Str (RdS.ex good_Str h1 hE36) hE559) good_Str) (okL.getD o14.2.1 ok_d_Table _) o2 (by first | omega | assumption | (simp only [wI] at *; omega)) (by first | omega | assumption | (simp only [wI] at *; omega)) (by first | omega | assumption | (simp only [wI] at *; omega))) fun _ _ h => h))
   ·exact oW rfl rfl rfl rfl hb38 fun h => yl_field1 fd75_0 rfl (h.dt 9 15 rfl rfl rfl) rfl kI
   ·exact oW rfl rfl rfl rfl hb38 fun h => yl_fieldAddr fd61_1 rfl (h.old 1 _ rfl rfl) kI
   ·exact oW rfl rfl rfl rfl hb38 fun h => yl_fieldAddr fd59_0 rfl (h.dt 11 17 rfl rfl rfl) kI
   ·exact oW rfl rfl rfl rfl hb38 fun h => yl_load1 ty9 rfl (h.dt 12 18 rfl rfl rfl) (((Box.ex q494 h.ex).cell 4).trans rfl) kI
   ·exact oW rfl rfl rfl rfl hb38 fun h => yl_sleq (a := ((i_Table_rowWrite (p_cap1.Ways.getD 0 d_Table) p_r).Key)) (b := p_cap0.Up.Last) rfl (h.dt 10 16 rfl rfl rfl) (h.dt 13 19 rfl rfl rfl) kI
   ·exact oI rfl fun h => yl_pick_f rfl (h.dt 3 9 rfl rfl rfl) hb38 (h.dt 14 20 rfl rfl rfl) kI
   ·exact oI rfl fun h => yl_move rfl (h.dt 15 21 rfl rfl rfl) kI
   ·exact oS rfl rfl rfl rfl rfl hb258
   ·exact oS rfl rfl rfl rfl rfl hb258
   ·exact oS rfl rfl rfl rfl rfl hb258
   ·exact oS rfl rfl rfl rfl rfl hb258
   ·exact oS rfl rfl rfl rfl rfl hb258
   ·exact oS rfl rfl rfl rfl rfl hb258
   ·exact oS rfl rfl rfl rfl rfl hb258
   ·exact oS rfl rfl rfl rfl rfl hb258
   ·exact oS rfl rfl rfl rfl rfl hb258
   ·exact oS rfl rfl rfl rfl rfl hb258
   ·exact oS rfl rfl rfl rfl rfl hb258
   ·exact oI rfl fun h => yl_pick_f rfl (h.dt 16 22 rfl rfl rfl) hb258 rfl kI
   ·exact oI rfl fun h => yl_assign rfl (h.dt 28 34 rfl rfl rfl) kI
   ·intro fl681 fh682 L678 w679 hp680
    have hE683 := hp680.ex
    have hE683z := Ex.size hE683
    refine dn (CW.sub (Sub.cons (d := 5) (hp680.nt 29 5 rfl rfl rfl) (Sub.nil _)) (CW.ret (rr rfl (.cons rfl .nil) ?_)))
    have hM685 : (i_IsFilled_c1 p_r p_cap0 p_cap1 p_cap2) = (false) := by simp only [i_IsFilled_c1, hb38, hb258, cL]
    rw [hM685]
    exact ⟨rfl, (Ex.trans (Ex.trans (Ex.refl w) hE36) hE683)⟩
theorem c_i_IsFilled {A1 : Option Addr} {c1 : Nat} {A2 : Option Addr} {c2 : Nat} {A3 : Option Addr} {c3 : Nat} {w : World} (p_w : DWork) (h1 : RdS w (Iv 0 w.heap.size) R_Table 3 A1 p_w.Shift.Ways.length c1 p_w.Shift.Ways) (h2 : RdS w (Iv 0 w.heap.size) (RF e_Int) 1 A2 p_w.Shift.At.length c2 p_w.Shift.At) (h3 : RdS w (Iv 0 w.heap.size) (RF e_Write) 3 A3 p_w.Shift.Store.length c3 p_w.Shift.Store) (o4 : ok_Work p_w) : Cal Tryz.prog 21 #[.agg #[.string (bs (p_w.Shift.Name)), .slice A1 p_w.Shift.Ways.length c1, .slice A2 p_w.Shift.At.length c2, .slice A3 p_w.Shift.Store.length c3, .string (bs (p_w.Up.Last)), .bool (p_w.Up.Over), .string (bs (p_w.Down.Last)), .bool (p_w.Down.Over)]] w fun v w' => v = .tuple #[.bool ((i_IsFilled p_w).1), .bool ((i_IsFilled p_w).2)] ∧ Ex w w' := by
 have hol5 : p_w.Shift.Name.length ≤ 1073741824 := o4.1.1
 have hol6 := o4.1.2.1.1
 have hol7 := o4.1.2.2.1.1
 have hol8 := o4.1.2.2.2.1
 have hol9 : p_w.Up.Last.length ≤ 1073741824 := o4.2.1
 have hol10 : p_w.Down.Last.length ≤ 1073741824 := o4.2.2
 refine Cal.of func21 rfl ntmps21 rfl (CW.seq (CW.region (sd rfl (yl_box rfl rfl rfl ?_))))
 intro b11 w12 hs13 hz14 hB15 hE16
 refine sd rfl (yl_assign rfl rfl (sd rfl (yl_assign rfl rfl (dn (CW.seq (CW.seq (CW.region (sd rfl (yl_loadN ty61 rfl rfl (hB15.cells (n := 8) rfl) rfl ?_)))))))))
 have q17 := RdS.ex good_Table h1 hE16
 have q18 := RdS.ex good_Int h2 hE16
 have q19 := RdS.ex good_Write h3 hE16
 refine sd rfl (yl_call en49 rfl (oc rfl oz) (Cal.mono (c_i_GoodWork p_w (RdS.up q17 good_Table) (RdS.up q18 good_Int) (RdS.up q19 good_Write) o4) ?_))
 rintro v21 w20 ⟨rfl, hE22⟩
 have hE22z := Ex.size hE22
 refine sd rfl (yl_not rfl rfl (dn (bcase (i_GoodWork p_w) (fun hb23 => ?_) (fun hb23 => ?_))))
 ·obtain ⟨hb23p0, hb23p1, hb23p2, hb23p3, hb23p4, hb23p5, hb23p6, hb23p7, hb23p8⟩ := (fun h => f_filled (f_i_GoodWork h)) hb23
  refine CW.cond_f rfl (not_t hb23) (CW.skip (tn (CW.seq (CW.region (sd rfl (yl_fieldAddr fd61_0 rfl rfl ?_))))))
  have q24 := Box.ex hB15 hE22
  refine sd rfl (yl_loadN ty58 rfl rfl (q24.cells (n := 4) rfl) rfl (sd rfl (yl_alloc ty58 (cs := [.string (bs (([] : Str))), .slice none 0 0, .slice none 0 0, .slice none 0 0]) rfl rfl ?_)))
  intro b25 w26 hs27 hz28 hB29 hE30
  refine SeqR.u rfl rfl (yl_store (vs := [.string (bs (p_w.Shift.Name)), .slice A1 p_w.Shift.Ways.length c1, .slice A2 p_w.Shift.At.length c2, .slice A3 p_w.Shift.Store.length c3]) ty58 rfl rfl rfl rfl rfl rfl hB29 (Nat.le_of_ble_eq_true rfl) ?_)
  intro w31 hB32 hO33
  have hB32 : Box w31 b25 58 [.string (bs (p_w.Shift.Name)), .slice A1 p_w.Shift.Ways.length c1, .slice A2 p_w.Shift.At.length c2, .slice A3 p_w.Shift.Store.length c3] := hB32
  have hO33z := hO33.size
  refine dn (CW.seq ?_)
  have q36 := RdS.only good_Table (RdS.ex good_Table (RdS.ex good_Table q17 hE22) hE30) hO33 (by simp only [Iv]; omega)
  obtain ⟨eb37, eo37, _, eA37, _, ebl37, _, eR37, eC37⟩ := RdS.aD q36 d_Table (i := 0)
  obtain ⟨A38, c38, A39, c39, rfl, h38, h39⟩ := eR37
  have q42 := RdS.only good_Write (RdS.ex good_Write (RdS.ex good_Write q19 hE22) hE30) hO33 (by simp only [Iv]; omega)
  refine CW.drawsG 10 (fun _ _ => False) (fun _ _ _ => False) (vgetG [DetG (.pointer (some ⟨b25, 0 + 1, none⟩)), DetG (.slice A1 p_w.Shift.Ways.length c1), DetG (.pointer (some ⟨eb37, eo37 + 0 * 3, none⟩)), DetG (.agg #[.string (bs ((p_w.Shift.Ways.getD 0 d_Table).Name)), .slice A38 (((p_w.Shift.Ways.getD 0 d_Table).Cols).length) c38, .slice A39 (((p_w.Shift.Ways.getD 0 d_Table).Idxs).length) c39]), DetG (.pointer (some ⟨b25, 0 + 0, none⟩)), DetG (.string (bs (p_w.Shift.Name))), DetG (.pointer (some ⟨b25, 0 + 3, none⟩)), DetG (.slice A3 p_w.Shift.Store.length c3), fun G v wq => ∃ A44 c44 lo44 hi44, v = .slice A44 ((i_Table_entriesIn (p_w.Shift.Ways.getD 0 d_Table) p_w.Shift.Name p_w.Shift.Store).length) c44 ∧ OwnL wq lo44 hi44 9 1 (RF e_Str) A44 ((i_Table_entriesIn (p_w.Shift.Ways.getD 0 d_Table) p_w.Shift.Name p_w.Shift.Store).length) c44 (i_Table_entriesIn (p_w.Shift.Ways.getD 0 d_Table) p_w.Shift.Name p_w.Shift.Store) ∧ (okL okS) (i_Table_entriesIn (p_w.Shift.Ways.getD 0 d_Table) p_w.Shift.Name p_w.Shift.Store) ∧ ((G.fl 8) ≤ lo44 ∧ lo44 ≤ hi44 ∧ hi44 ≤ (G.fh 8)), fun G v wq => v = .pointer (some ⟨(G.fl 9), 0, none⟩) ∧ Box wq (G.fl 9) 22 [.slice none 0 0] ∧ (G.fl 9) < (G.fh 9)]) Tryz.follows rfl rfl rfl rfl rfl rfl (fun _ _ _ _ _ h => h) (fun _ _ _ _ _ _ _ _ _ h => h.elim) (vgetG_kept ⟨(KeptG.det _), (KeptG.det _), (KeptG.det _), (KeptG.det _), (KeptG.det _), (KeptG.det _), (KeptG.det _), (KeptG.det _), (by rintro i G v w w' K hn hh hj ⟨A44, c44, lo44, hi44, hv, h0, h1, hr0⟩ e; have d8 : G.dn 8 = true := hj; have u8 := Gh.ufl (lo := w.heap.size) (hi := w'.heap.size) d8 hn; have t8 := Gh.ufh (lo := w.heap.size) (hi := w'.heap.size) d8 hn; exact ⟨A44, c44, lo44, hi44, hv, (by exact OwnL.chg good_Str h0 e (fun b hb hp => by exact hp.elim)), h1, (by simp only [u8, t8]; exact hr0)⟩), (by rintro i G v w w' K hn hh hj ⟨hv, h0, he0⟩ e; have d9 : G.dn 9 = true := hj; have u9 := Gh.ufl (lo := w.heap.size) (hi := w'.heap.size) d9 hn; have t9 := Gh.ufh (lo := w.heap.size) (hi := w'.heap.size) d9 hn; exact ⟨(by simp only [u9, t9]; exact hv), (by simp only [u9, t9]; exact Box.chg h0 e (fun hp => by exact hp.elim)), (by simp only [u9, t9]; exact he0)⟩), trivial⟩) ⟨?_, ?_, ?_, ?_, ?_, ?_, ?_, ?_, ?_, ?_, trivial⟩ ?_
  ·intro L48 w49 G47 hgk50
   have hE51 := hgk50.st.ex.ex (fun b h => h.elim (fun h => h.elim) (fun h => h))
   have hE51z := Ex.size hE51
   exact OpR.op' rfl (Yl.sameG (yl_fieldAddr fd58_1 rfl (hgk50.old 4 _ rfl rfl) kI))
  ·intro L54 w55 G53 hgk56
   have hE57 := hgk56.st.ex.ex (fun b h => h.elim (fun h => h.elim) (fun h => h))
   have hE57z := Ex.size hE57
   obtain ⟨_, hx58, rfl⟩ := hgk56.val 0 11 rfl rfl
   exact OpR.op' rfl (Yl.sameG (yl_load1 ty56 rfl hx58 (((Box.ex hB32 hE57).cell 1).trans rfl) kI))
  ·intro L61 w62 G60 hgk63
   have hE64 := hgk63.st.ex.ex (fun b h => h.elim (fun h => h.elim) (fun h => h))
   have hE64z := Ex.size hE64
   obtain ⟨_, hx65, rfl⟩ := hgk63.val 1 12 rfl rfl
   exact OpR.op' rfl (Yl.sameG (yl_ixN un56 ty34 rfl hx65 rfl eA37 kI))
  ·intro L67 w68 G66 hgk69
   have hE70 := hgk69.st.ex.ex (fun b h => h.elim (fun h => h.elim) (fun h => h))
   have hE70z := Ex.size hE70
   obtain ⟨_, hx71, rfl⟩ := hgk69.val 2 13 rfl rfl
   exact OpR.op' rfl (Yl.sameG (yl_loadN ty34 rfl hx71 (Cells.ex eC37 hE70) rfl kI))
  ·intro L74 w75 G73 hgk76
   have hE77 := hgk76.st.ex.ex (fun b h => h.elim (fun h => h.elim) (fun h => h))
   have hE77z := Ex.size hE77
   exact OpR.op' rfl (Yl.sameG (yl_fieldAddr fd58_0 rfl (hgk76.old 4 _ rfl rfl) kI))
  ·intro L80 w81 G79 hgk82
   have hE83 := hgk82.st.ex.ex (fun b h => h.elim (fun h => h.elim) (fun h => h))
   have hE83z := Ex.size hE83
   obtain ⟨_, hx84, rfl⟩ := hgk82.val 4 15 rfl rfl
   exact OpR.op' rfl (Yl.sameG (yl_load1 ty9 rfl hx84 (((Box.ex hB32 hE83).cell 0).trans rfl) kI))
  ·intro L87 w88 G86 hgk89
   have hE90 := hgk89.st.ex.ex (fun b h => h.elim (fun h => h.elim) (fun h => h))
   have hE90z := Ex.size hE90
   exact OpR.op' rfl (Yl.sameG (yl_fieldAddr fd58_3 rfl (hgk89.old 4 _ rfl rfl) kI))
  ·intro L93 w94 G92 hgk95
   have hE96 := hgk95.st.ex.ex (fun b h => h.elim (fun h => h.elim) (fun h => h))
   have hE96z := Ex.size hE96
   obtain ⟨_, hx97, rfl⟩ := hgk95.val 6 17 rfl rfl
   exact OpR.op' rfl (Yl.sameG (yl_load1 ty36 rfl hx97 (((Box.ex hB32 hE96).cell 3).trans rfl) kI))
  ·intro L100 w101 G99 hgk102
   have hE103 := hgk102.st.ex.ex (fun b h => h.elim (fun h => h.elim) (fun h => h))
   have hE103z := Ex.size hE103
   obtain ⟨_, hx104, rfl⟩ := hgk102.val 3 14 rfl rfl
   obtain ⟨_, hx105, rfl⟩ := hgk102.val 5 16 rfl rfl
   obtain ⟨_, hx106, rfl⟩ := hgk102.val 7 18 rfl rfl
   refine OpR.op' rfl (yl_call en50 rfl (oc hx104 (oc hx105 (oc hx106 oz))) (Cal.mono (c_i_Table_entriesIn (p_w.Shift.Ways.getD 0 d_Table) p_w.Shift.Name p_w.Shift.Store (RdS.up (RdS.ex good_Str h38 hE103) good_Str) (RdS.up (RdS.ex good_Idx h39 hE103) good_Idx) (RdS.up (RdS.ex good_Write q42 hE103) good_Write) (okL.getD o4.1.2.1 ok_d_Table _) o4.1.1 o4.1.2.2.2 (by first | omega | assumption | (simp only [wI] at *; omega))) ?_))
   rintro v113 w110 ⟨A111, c111, lo111, hi111, rfl, h111, ho112, hrn115, hE114⟩
   exact ⟨Chg.of_ex hE114, A111, c111, lo111, hi111, rfl, h111, ho112, hrn115⟩
  ·intro L117 w118 G116 hgk119
   have hE120 := hgk119.st.ex.ex (fun b h => h.elim (fun h => h.elim) (fun h => h))
   have hE120z := Ex.size hE120
   refine OpR.op' rfl (yl_alloc ty22 (cs := [.slice none 0 0]) rfl rfl ?_)
   intro b121 w122 hs123 hz124 hB125 hE126
   subst hs123
   exact ⟨Chg.of_ex hE126, rfl, hB125, by rw [Gh.sfl, Gh.sfh]; omega⟩
  ·intro G127 L128 w129 hgp130
   have hE131 := hgp130.st.ex.ex (fun b h => h.elim (fun h => h.elim) (fun h => h))
   have hE131z := Ex.size hE131
   obtain ⟨_, hx134, A44_135, c44_136, lo44_137, hi44_138, rfl, h139, h140, hrn141⟩ := hgp130.val 8 19 rfl rfl
   obtain ⟨_, hx142, rfl, h143, he144⟩ := hgp130.val 9 5 rfl rfl
   have hr145 := hgp130.st.rng 8 (hgp130.has 8 rfl)
   have hr146 := hgp130.st.rng 9 (hgp130.has 9 rfl)
   have hsp147 := hgp130.st.sep 8 9 (hgp130.has 8 rfl) (hgp130.has 9 rfl) rfl
   refine SeqR.u rfl rfl (yl_store (vs := [.slice A44_135 ((i_Table_entriesIn (p_w.Shift.Ways.getD 0 d_Table) p_w.Shift.Name p_w.Shift.Store).length) c44_136]) ty22 rfl hx142 hx134 rfl rfl rfl h143 (Nat.le_of_ble_eq_true rfl) ?_)
   intro w148 hB149 hO150
   have hB149 : Box w148 (G127.fl 9) 22 [.slice A44_135 ((i_Table_entriesIn (p_w.Shift.Ways.getD 0 d_Table) p_w.Shift.Name p_w.Shift.Store).length) c44_136] := hB149
   have hO150z := hO150.size
   refine dn (CW.sub (Sub.cons (d := 1) (hgp130.old 1 _ rfl rfl) (Sub.cons (d := 4) (hgp130.old 4 _ rfl rfl) (Sub.cons (d := 5) hx142 (Sub.nil _)))) (CW.seq ?_))
   have q152 := Box.only (Box.ex hB32 hE131) hO150 (by omega)
   have q160 := RdS.only good_Write (RdS.ex good_Write q42 hE131) hO150 (by simp only [Iv]; omega)
   refine CW.drawsI 12 (vgetI [DetI (.pointer (some ⟨b25, 0 + 1, none⟩)), DetI (.slice A1 p_w.Shift.Ways.length c1), DetI (.pointer (some ⟨eb37, eo37 + 0 * 3, none⟩)), DetI (.agg #[.string (bs ((p_w.Shift.Ways.getD 0 d_Table).Name)), .slice A38 (((p_w.Shift.Ways.getD 0 d_Table).Cols).length) c38, .slice A39 (((p_w.Shift.Ways.getD 0 d_Table).Idxs).length) c39]), DetI (.pointer (some ⟨b25, 0 + 3, none⟩)), DetI (.slice A3 p_w.Shift.Store.length c3), fun lo hi v wq => ∃ A162 c162 lo162 hi162, v = .slice A162 ((i_Table_rowsIn (p_w.Shift.Ways.getD 0 d_Table) p_w.Shift.Store).length) c162 ∧ OwnD wq lo162 hi162 80 1 RO_Row A162 ((i_Table_rowsIn (p_w.Shift.Ways.getD 0 d_Table) p_w.Shift.Store).length) c162 (i_Table_rowsIn (p_w.Shift.Ways.getD 0 d_Table) p_w.Shift.Store) ∧ (okL ok_Row) (i_Table_rowsIn (p_w.Shift.Ways.getD 0 d_Table) p_w.Shift.Store) ∧ (lo ≤ lo162 ∧ lo162 ≤ hi162 ∧ hi162 ≤ hi), DetI (.func (.func 52) #[] #[.pointer (some ⟨b11, 0, none⟩), .pointer (some ⟨b25, 0, none⟩), .pointer (some ⟨(G127.fl 9), 0, none⟩)]), DetI (.bool ((g_slices_ContainsFunc_Row (i_Table_rowsIn (p_w.Shift.Ways.getD 0 d_Table) p_w.Shift.Store) (fun y0 => i_IsFilled_c1 y0 p_w p_w.Shift (i_Table_entriesIn (p_w.Shift.Ways.getD 0 d_Table) p_w.Shift.Name p_w.Shift.Store))))), DetI (.bool (!(g_slices_ContainsFunc_Row (i_Table_rowsIn (p_w.Shift.Ways.getD 0 d_Table) p_w.Shift.Store) (fun y0 => i_IsFilled_c1 y0 p_w p_w.Shift (i_Table_entriesIn (p_w.Shift.Ways.getD 0 d_Table) p_w.Shift.Name p_w.Shift.Store))))), DetI (.bool (!(g_slices_ContainsFunc_Row (i_Table_rowsIn (p_w.Shift.Ways.getD 0 d_Table) p_w.Shift.Store) (fun y0 => i_IsFilled_c1 y0 p_w p_w.Shift (i_Table_entriesIn (p_w.Shift.Ways.getD 0 d_Table) p_w.Shift.Name p_w.Shift.Store))))), DetI (.bool (true))]) Tryz.follows rfl rfl rfl rfl rfl rfl (vgetI_stable ⟨StableI.det _, StableI.det _, StableI.det _, StableI.det _, StableI.det _, StableI.det _, (fun _ _ _ _ _ ⟨A162, c162, lo162, hi162, hv, h162, ho163, hr0⟩ e => ⟨A162, c162, lo162, hi162, hv, OwnD.ex goodO_Row h162 e, ho163, hr0⟩), StableI.det _, StableI.det _, StableI.det _, StableI.det _, StableI.det _, trivial⟩) ⟨?_, ?_, ?_, ?_, ?_, ?_, ?_, ?_, ?_, ?_, ?_, ?_, trivial⟩ ?_
   ·exact oI rfl fun h => yl_fieldAddr fd58_1 rfl (h.old 4 _ rfl rfl) kI
   ·exact oI rfl fun h => yl_load1 ty56 rfl (h.dt 0 20 rfl rfl rfl) (((Box.ex q152 h.ex).cell 1).trans rfl) kI
   ·intro L189 w190 hi191
    have hE192 := hi191.ex
    have hE192z := Ex.size hE192
    exact os rfl ((yl_ixN un56 ty34 rfl (hi191.dt 1 21 rfl rfl rfl) rfl eA37 kI))
   ·intro L194 w195 hi196
    have hE197 := hi196.ex
    have hE197z := Ex.size hE197
    exact os rfl ((yl_loadN ty34 rfl (hi196.dt 2 22 rfl rfl rfl) (Cells.ex (Cells.only (Cells.ex eC37 hE131) hO150 (by omega)) hE197) rfl kI))
   ·exact oI rfl fun h => yl_fieldAddr fd58_3 rfl (h.old 4 _ rfl rfl) kI
   ·exact oI rfl fun h => yl_load1 ty36 rfl (h.dt 4 24 rfl rfl rfl) (((Box.ex q152 h.ex).cell 3).trans rfl) kI
   ·intro L211 w212 hi213
    have hE214 := hi213.ex
    have hE214z := Ex.size hE214
    refine OpR.op' rfl (yl_call en34 rfl (oc (hi213.dt 3 23 rfl rfl rfl) (oc (hi213.dt 5 25 rfl rfl rfl) oz)) (Cal.mono (c_i_Table_rowsIn (p_w.Shift.Ways.getD 0 d_Table) p_w.Shift.Store (RdS.up (RdS.ex good_Str (RdS.only good_Str (RdS.ex good_Str h38 hE131) hO150 (by simp only [Iv]; omega)) hE214) good_Str) (RdS.up (RdS.ex good_Idx (RdS.only good_Idx (RdS.ex good_Idx h39 hE131) hO150 (by simp only [Iv]; omega)) hE214) good_Idx) (RdS.up (RdS.ex good_Write q160 hE214) good_Write) (okL.getD o4.1.2.1 ok_d_Table _) o4.1.2.2.2 (by first | omega | assumption | (simp only [wI] at *; omega))) ?_))
    rintro v223 w220 ⟨A221, c221, lo221, hi221, rfl, h221, ho222, hrn225, hE224⟩
    exact ⟨⟨A221, c221, lo221, hi221, rfl, h221, ho222, hrn225⟩, hE224⟩
   ·exact oI rfl fun h => yl_makeFunc rfl (oc (h.old 1 _ rfl rfl) (oc (h.old 4 _ rfl rfl) (oc (h.old 5 _ rfl rfl) oz))) kI
   ·intro L233 w234 hi235
    have hE236 := hi235.ex
    have hE236z := Ex.size hE236
    obtain ⟨lo238, hh239, _, hx237, hr240, hr241, hr242, A162_243, c162_244, lo162_245, hi162_246, rfl, h247, h248, hrn249⟩ := hi235.dep 6 26 rfl rfl
    have q252 := RdS.ex good_Table (RdS.only good_Table (RdS.ex good_Table q36 hE131) hO150 (by simp only [Iv]; omega)) hE236
    have q253 := RdS.ex good_Int (RdS.only good_Int (RdS.ex good_Int (RdS.only good_Int (RdS.ex good_Int (RdS.ex good_Int q18 hE22) hE30) hO33 (by simp only [Iv]; omega)) hE131) hO150 (by simp only [Iv]; omega)) hE236
    have q254 := RdS.ex good_Write q160 hE236
    exact OpR.op' rfl (yl_call en51 rfl (oc hx237 (oc (hi235.dt 7 27 rfl rfl rfl) oz)) (Cal.mono (c_g_slices_ContainsFunc_Row (i_Table_rowsIn (p_w.Shift.Ways.getD 0 d_Table) p_w.Shift.Store) (fun y0 => i_IsFilled_c1 y0 p_w p_w.Shift (i_Table_entriesIn (p_w.Shift.Ways.getD 0 d_Table) p_w.Shift.Name p_w.Shift.Store)) (RdS.up (OwnL.rd good_Row (OwnD.own goodO_Row good_Row h247)) good_Row) en52 (fun _ y0 => fun hE hm0 hv0 ov0 => c_i_IsFilled_c1 y0 p_w p_w.Shift (i_Table_entriesIn (p_w.Shift.Ways.getD 0 d_Table) p_w.Shift.Name p_w.Shift.Store) hv0 (RdS.up (RdS.ex good_Table q252 hE) good_Table) (RdS.up (RdS.ex good_Int q253 hE) good_Int) (RdS.up (RdS.ex good_Write q254 hE) good_Write) (Box.ex (Box.ex (Box.only (Box.ex (Box.only (Box.ex q24 hE30) hO33 (by omega)) hE131) hO150 (by omega)) hE236) hE) (RdS.up (RdS.ex good_Table q252 hE) good_Table) (RdS.up (RdS.ex good_Int q253 hE) good_Int) (RdS.up (RdS.ex good_Write q254 hE) good_Write) (Box.ex (Box.ex q152 hE236) hE) (RdS.up (RdS.ex good_Str (OwnL.rd good_Str (OwnL.ex good_Str (OwnL.only good_Str h139 hO150 (by omega)) hE236)) hE) good_Str) (Box.ex (Box.ex hB149 hE236) hE) ov0 o4 o4.1 h140 (f_i_GoodWork hb23) (rowsIn_mem (f_filled (f_i_GoodWork hb23)).2.1 hm0)) h248) fun _ _ h => h))
   ·exact oI rfl fun h => yl_not rfl (h.dt 8 28 rfl rfl rfl) kI
   ·exact oI rfl fun h => yl_assign rfl (h.dt 9 29 rfl rfl rfl) kI
   ·exact oI rfl fun _ => yl_assign rfl rfl kI
   ·intro fl280 fh281 L277 w278 hp279
    have hE282 := hp279.ex
    have hE282z := Ex.size hE282
    have hr284 := hp279.rng 6 rfl
    obtain ⟨_, hx283, A162_285, c162_286, lo162_287, hi162_288, rfl, h289, h290, hrn291⟩ := hp279.new 6 26 rfl rfl
    refine dn (CW.sub (Sub.cons (d := 2) (hp279.nt 10 2 rfl rfl rfl) (Sub.cons (d := 3) (hp279.nt 11 3 rfl rfl rfl) (Sub.nil _))) (CW.ret (rr rfl (.cons rfl (.cons rfl .nil)) ?_)))
    have hM294 : (i_IsFilled p_w) = ((!(g_slices_ContainsFunc_Row (i_Table_rowsIn (p_w.Shift.Ways.getD 0 d_Table) p_w.Shift.Store) (fun y0 => i_IsFilled_c1 y0 p_w p_w.Shift (i_Table_entriesIn (p_w.Shift.Ways.getD 0 d_Table) p_w.Shift.Name p_w.Shift.Store))), true)) := by simp only [i_IsFilled, hb23, cL]
    rw [hM294]
    exact ⟨rfl, (Ex.trans (Below.only (Ex.trans (Below.only (Ex.trans (Ex.trans (Ex.trans (Ex.refl w) hE16) hE22) hE30) hO33 (by omega)) hE131) hO150 (by omega)) hE282)⟩
 ·refine CW.cond_t rfl (not_f hb23) (CW.seq (CW.region (sd rfl (yl_assign rfl rfl (sd rfl (yl_assign rfl rfl (dn (CW.ret (tr ?_)))))))))
  refine rr rfl (.cons rfl (.cons rfl .nil)) ?_
  have hM302 : (i_IsFilled p_w) = ((false, false)) := by simp only [i_IsFilled, hb23, cL]
  rw [hM302]
  exact ⟨rfl, (Ex.trans (Ex.trans (Ex.refl w) hE16) hE22)⟩
theorem c_l_eqWrite {w : World} (p_a : DWrite) (p_b : DWrite) : Cal Tryz.prog 38 #[.agg #[.string (bs (p_a.Key)), .string (bs (p_a.Val)), .bool (p_a.Gone)], .agg #[.string (bs (p_b.Key)), .string (bs (p_b.Val)), .bool (p_b.Gone)]] w fun v w' => v = .bool ((l_eqWrite p_a p_b)) ∧ Ex w w' := by
 refine Cal.of func38 rfl ntmps38 rfl (CW.seq (CW.region (sd rfl (yl_box rfl rfl rfl ?_))))
 intro b1 w2 hs3 hz4 hB5 hE6
 refine sd rfl (yl_box rfl rfl rfl ?_)
 intro b7 w8 hs9 hz10 hB11 hE12
 refine sd rfl (yl_assign rfl rfl (dn (CW.seq (CW.seq (CW.region (sd rfl (yl_fieldAddr fd75_0 rfl rfl ?_)))))))
 have q13 := Box.ex hB5 hE12
 refine sd rfl (yl_load1 ty9 rfl rfl ((q13.cell 0).trans rfl) (sd rfl (yl_fieldAddr fd75_0 rfl rfl (sd rfl (yl_load1 ty9 rfl rfl ((hB11.cell 0).trans rfl) (sd rfl (yl_sneq (a := p_a.Key) (b := p_b.Key) rfl rfl rfl (dn (bcase (p_a.Key == p_b.Key) (fun hb14 => ?_) (fun hb14 => ?_))))))))))
 ·refine CW.cond_f rfl (not_t hb14) (CW.skip (tn (CW.seq (CW.seq (CW.region (sd rfl (yl_fieldAddr fd75_1 rfl rfl (sd rfl (yl_load1 ty9 rfl rfl ((q13.cell 1).trans rfl) (sd rfl (yl_fieldAddr fd75_1 rfl rfl ?_)))))))))))
  refine sd rfl (yl_load1 ty9 rfl rfl ((hB11.cell 1).trans rfl) (sd rfl (yl_sneq (a := p_a.Val) (b := p_b.Val) rfl rfl rfl (dn (bcase (p_a.Val == p_b.Val) (fun hb15 => ?_) (fun hb15 => ?_))))))
  ·refine CW.cond_f rfl (not_t hb15) (CW.skip (tn (CW.seq (CW.seq (CW.region (sd rfl (yl_fieldAddr fd75_2 rfl rfl (sd rfl (yl_load1 ty4 rfl rfl ((q13.cell 2).trans rfl) (sd rfl (yl_fieldAddr fd75_2 rfl rfl ?_)))))))))))
   refine sd rfl (yl_load1 ty4 rfl rfl ((hB11.cell 2).trans rfl) (sd rfl (yl_bneq un4 rfl rfl rfl (dn (bcase (p_a.Gone == p_b.Gone) (fun hb16 => ?_) (fun hb16 => ?_))))))
   ·refine CW.cond_f rfl (not_t hb16) (CW.skip (tn (CW.seq (CW.region (sd rfl (yl_assign rfl rfl (dn (CW.ret ?_))))))))
    refine rr rfl (.cons rfl .nil) ?_
    have hM17 : (l_eqWrite p_a p_b) = (true) := by simp only [l_eqWrite, hb14, hb15, hb16, cL]
    rw [hM17]
    exact ⟨rfl, (Ex.trans (Ex.trans (Ex.refl w) hE6) hE12)⟩
   ·refine CW.cond_t rfl (not_f hb16) (CW.seq (CW.region (sd rfl (yl_assign rfl rfl (dn (CW.ret (tr (rr rfl (.cons rfl .nil) ?_))))))))
    have hM20 : (l_eqWrite p_a p_b) = (false) := by simp only [l_eqWrite, hb14, hb15, hb16, cL]
    rw [hM20]
    exact ⟨rfl, (Ex.trans (Ex.trans (Ex.refl w) hE6) hE12)⟩
  ·refine CW.cond_t rfl (not_f hb15) (CW.seq (CW.region (sd rfl (yl_assign rfl rfl (dn (CW.ret (tr (rr rfl (.cons rfl .nil) ?_))))))))
   have hM23 : (l_eqWrite p_a p_b) = (false) := by simp only [l_eqWrite, hb14, hb15, cL]
   rw [hM23]
   exact ⟨rfl, (Ex.trans (Ex.trans (Ex.refl w) hE6) hE12)⟩
 ·refine CW.cond_t rfl (not_f hb14) (CW.seq (CW.region (sd rfl (yl_assign rfl rfl (dn (CW.ret (tr (rr rfl (.cons rfl .nil) ?_))))))))
  have hM26 : (l_eqWrite p_a p_b) = (false) := by simp only [l_eqWrite, hb14, cL]
  rw [hM26]
  exact ⟨rfl, (Ex.trans (Ex.trans (Ex.refl w) hE6) hE12)⟩
theorem c_l_eqWriteS {A1 : Option Addr} {c1 : Nat} {A2 : Option Addr} {c2 : Nat} {w : World} (p_a : List DWrite) (p_b : List DWrite) (h1 : RdS w (Iv 0 w.heap.size) (RF e_Write) 3 A1 p_a.length c1 p_a) (h2 : RdS w (Iv 0 w.heap.size) (RF e_Write) 3 A2 p_b.length c2 p_b) : Cal Tryz.prog 13 #[.slice A1 p_a.length c1, .slice A2 p_b.length c2] w fun v w' => v = .bool ((l_eqWriteS p_a p_b)) ∧ Ex w w' := by
 refine Cal.of func13 rfl ntmps13 rfl (CW.seq (CW.region (sd rfl (yl_assign rfl rfl (dn (CW.seq (CW.seq (CW.region ?_))))))))
 refine sd rfl (yl_move rfl rfl (sd rfl (yl_len un36 rfl rfl (sd rfl (yl_move rfl rfl (sd rfl (yl_len un36 rfl rfl (sd rfl (yl_neq rfl rfl rfl (dn (bcase (decide ((p_a.length : Int) = (p_b.length : Int))) (fun hb3 => ?_) (fun hb3 => ?_))))))))))))
 ·have hb3p := dec_t hb3
  refine CW.cond_f rfl (not_t hb3) (CW.skip (tn (CW.seq (CW.seq (CW.region (sd rfl (yl_assign rfl rfl (dn ?_))))))))
  refine CW.block (CW.loop (fun m5 L6 w7 => ∃ (k4 : Nat), m5 = p_a.length - k4 ∧ k4 ≤ p_a.length ∧ w.heap.size ≤ w7.heap.size ∧ lkp L6 0 = some (.slice A1 p_a.length c1) ∧ lkp L6 1 = some (.slice A2 p_b.length c2) ∧ lkp L6 5 = some (.int .i64 ((k4 : Int))) ∧ RdS w7 (Iv 0 w.heap.size) (RF e_Write) 3 A1 p_a.length c1 p_a ∧ RdS w7 (Iv 0 w.heap.size) (RF e_Write) 3 A2 p_b.length c2 p_b ∧ Ex w w7 ∧ loopM (B_l_eqWriteS_0 p_a p_b) (p_a.length - k4) k4 () = loopM (B_l_eqWriteS_0 p_a p_b) (p_a.length - 0) 0 ()) (p_a.length - 0) ?_ ?_)
  ·exact ⟨0, rfl, (by omega), Nat.le_refl _, rfl, rfl, rfl, h1, h2, (Ex.refl w), rfl⟩
  ·rintro m8 L9 w10 ⟨k4, rfl, hk11, hsz13, hl14, hl15, hl16, hf17, hf18, hf19, hI12⟩
   refine CW.sub (Sub.cons hl14 (Sub.cons hl15 (Sub.cons hl16 (Sub.nil _)))) ?_
   have hf19z := Ex.size hf19
   have hbg20 := RdS.big hf17
   rcases Nat.lt_or_ge k4 p_a.length with hlt21 | hlt21
   ·refine CW.seq (CW.seq (CW.region (sd rfl (yl_move rfl rfl (sd rfl (yl_move rfl rfl (sd rfl (yl_len un36 rfl rfl (sd rfl (yl_lss rfl rfl rfl (dn ?_)))))))))))
    refine CW.cond_t rfl (lt_t hlt21) (CW.skip (tn (CW.seq (CW.block (CW.seq ?_)))))
    obtain ⟨eb22, eo22, _, eA22, _, ebl22, _, eR22, eC22⟩ := RdS.aD hf17 d_Write (i := k4)
    obtain rfl := eR22
    have eC22 : Cells w10 eb22 (eo22 + k4 * 3) [.string (bs ((p_a.getD k4 d_Write).Key)), .string (bs ((p_a.getD k4 d_Write).Val)), .bool ((p_a.getD k4 d_Write).Gone)] := eC22
    obtain ⟨eb23, eo23, _, eA23, _, ebl23, _, eR23, eC23⟩ := RdS.aD hf18 d_Write (i := k4)
    obtain rfl := eR23
    have eC23 : Cells w10 eb23 (eo23 + k4 * 3) [.string (bs ((p_b.getD k4 d_Write).Key)), .string (bs ((p_b.getD k4 d_Write).Val)), .bool ((p_b.getD k4 d_Write).Gone)] := eC23
    refine CW.drawsI 10 (vgetI ([.slice A1 p_a.length c1, .int .i64 ((k4 : Int)), .pointer (some ⟨eb22, eo22 + k4 * 3, none⟩), .agg #[.string (bs ((p_a.getD k4 d_Write).Key)), .string (bs ((p_a.getD k4 d_Write).Val)), .bool ((p_a.getD k4 d_Write).Gone)], .slice A2 p_b.length c2, .int .i64 ((k4 : Int)), .pointer (some ⟨eb23, eo23 + k4 * 3, none⟩), .agg #[.string (bs ((p_b.getD k4 d_Write).Key)), .string (bs ((p_b.getD k4 d_Write).Val)), .bool ((p_b.getD k4 d_Write).Gone)], .bool ((l_eqWrite (p_a.getD k4 d_Write) (p_b.getD k4 d_Write))), .bool (!(l_eqWrite (p_a.getD k4 d_Write) (p_b.getD k4 d_Write)))].map DetI)) Tryz.follows rfl rfl rfl rfl rfl rfl (vgetI_stable (stD _)) ⟨?_, ?_, ?_, ?_, ?_, ?_, ?_, ?_, ?_, ?_, trivial⟩ ?_
    ·exact oI rfl fun h => yl_move rfl (h.old 0 _ rfl rfl) kI
    ·exact oI rfl fun h => yl_move rfl (h.old 5 _ rfl rfl) kI
    ·intro L35 w36 hi37
     have hE38 := hi37.ex
     have hE38z := Ex.size hE38
     exact os rfl ((yl_ixN un36 ty75 rfl (hi37.dt 0 17 rfl rfl rfl) (hi37.dt 1 18 rfl rfl rfl) eA22 kI))
    ·exact oI rfl fun h => yl_loadN ty75 rfl (h.dt 2 19 rfl rfl rfl) (Cells.ex eC22 h.ex) rfl kI
    ·exact oI rfl fun h => yl_move rfl (h.old 1 _ rfl rfl) kI
    ·exact oI rfl fun h => yl_move rfl (h.old 5 _ rfl rfl) kI
    ·intro L57 w58 hi59
     have hE60 := hi59.ex
     have hE60z := Ex.size hE60
     exact os rfl ((yl_ixN un36 ty75 rfl (hi59.dt 4 21 rfl rfl rfl) (hi59.dt 5 22 rfl rfl rfl) eA23 kI))
    ·exact oI rfl fun h => yl_loadN ty75 rfl (h.dt 6 23 rfl rfl rfl) (Cells.ex eC23 h.ex) rfl kI
    ·intro L69 w70 hi71
     exact OpR.op' rfl (yl_call en38 rfl (oc (hi71.dt 3 20 rfl rfl rfl) (oc (hi71.dt 7 24 rfl rfl rfl) oz)) (Cal.mono (c_l_eqWrite (p_a.getD k4 d_Write) (p_b.getD k4 d_Write)) fun _ _ h => h))
    ·exact oI rfl fun h => yl_not rfl (h.dt 8 25 rfl rfl rfl) kI
    ·intro fl86 fh87 L83 w84 hp85
     have hE88 := hp85.ex
     have hE88z := Ex.size hE88
     refine dn (CW.sub (Sub.cons (d := 0) (hp85.old 0 _ rfl rfl) (Sub.cons (d := 1) (hp85.old 1 _ rfl rfl) (Sub.cons (d := 5) (hp85.old 5 _ rfl rfl) (Sub.cons (d := 26) (hp85.nt 9 26 rfl rfl rfl) (Sub.nil _))))) (bcase (l_eqWrite (p_a.getD k4 d_Write) (p_b.getD k4 d_Write)) (fun hb93 => ?_) (fun hb93 => ?_)))
     ·refine CW.cond_f rfl (not_t hb93) (CW.skip (bn (tn (CW.region (sd rfl (yl_move rfl rfl (sd rfl (yl_inc rfl rfl rfl (by omega) (sd rfl (yl_assign rfl rfl (SeqR.done ?_)))))))))))
      refine tn ?_
      have hB94 : B_l_eqWriteS_0 p_a p_b k4 () = .cont () := by simp only [B_l_eqWriteS_0, hb3, hb93, cL]
      exact ⟨p_a.length - (k4 + 1), by omega, k4 + 1, rfl, hlt21, (by omega), rfl, rfl, rfl, (RdS.ex good_Write hf17 hE88), (RdS.ex good_Write hf18 hE88), (Ex.trans hf19 hE88), (loopM.cont hlt21 hB94).symm.trans hI12⟩
     ·refine CW.cond_t rfl (not_f hb93) (CW.seq (CW.region (sd rfl (yl_assign rfl rfl (dn (CW.ret (br (tr ?_))))))))
      refine tr ?_
      have hB99 : B_l_eqWriteS_0 p_a p_b k4 () = .ret false := by simp only [B_l_eqWriteS_0, hb3, hb93, cL]
      have hL98 : loopM (B_l_eqWriteS_0 p_a p_b) (p_a.length - 0) 0 () = .ret false := hI12.symm.trans (loopM.ret hlt21 hB99)
      refine br (tr (rr rfl (.cons rfl .nil) ?_))
      have hM100 : (l_eqWriteS p_a p_b) = (false) := by simp only [l_eqWriteS, hb3, hb93, hL98, cL]
      rw [hM100]
      exact ⟨rfl, (Ex.trans hf19 hE88)⟩
   ·refine CW.seq (CW.seq (CW.region (sd rfl (yl_move rfl rfl (sd rfl (yl_move rfl rfl (sd rfl (yl_len un36 rfl rfl (sd rfl (yl_lss rfl rfl rfl (dn ?_)))))))))))
    refine CW.cond_f rfl (lt_f hlt21) (CW.exit (tx (tx ?_)))
    have hL102 : loopM (B_l_eqWriteS_0 p_a p_b) (p_a.length - 0) 0 () = .done () := hI12.symm.trans (loopM.stop hlt21)
    refine bx (tn (CW.seq (CW.region (sd rfl (yl_assign rfl rfl (dn (CW.ret (rr rfl (.cons rfl .nil) ?_))))))))
    have hM103 : (l_eqWriteS p_a p_b) = (true) := by simp only [l_eqWriteS, hb3, hL102, cL]
    rw [hM103]
    exact ⟨rfl, hf19⟩
 ·have hb3p := dec_f hb3
  refine CW.cond_t rfl (not_f hb3) (CW.seq (CW.region (sd rfl (yl_assign rfl rfl (dn (CW.ret (tr (rr rfl (.cons rfl .nil) ?_))))))))
  have hM104 : (l_eqWriteS p_a p_b) = (false) := by simp only [l_eqWriteS, hb3, cL]
  rw [hM104]
  exact ⟨rfl, (Ex.refl w)⟩
theorem c_l_eqStringS {A1 : Option Addr} {c1 : Nat} {A2 : Option Addr} {c2 : Nat} {w : World} (p_a : List Str) (p_b : List Str) (h1 : RdS w (Iv 0 w.heap.size) (RF e_Str) 1 A1 p_a.length c1 p_a) (h2 : RdS w (Iv 0 w.heap.size) (RF e_Str) 1 A2 p_b.length c2 p_b) : Cal Tryz.prog 36 #[.slice A1 p_a.length c1, .slice A2 p_b.length c2] w fun v w' => v = .bool ((l_eqStringS p_a p_b)) ∧ Ex w w' := by
 refine Cal.of func36 rfl ntmps36 rfl (CW.seq (CW.region (sd rfl (yl_assign rfl rfl (dn (CW.seq (CW.seq (CW.region ?_))))))))
 refine sd rfl (yl_move rfl rfl (sd rfl (yl_len un22 rfl rfl (sd rfl (yl_move rfl rfl (sd rfl (yl_len un22 rfl rfl (sd rfl (yl_neq rfl rfl rfl (dn (bcase (decide ((p_a.length : Int) = (p_b.length : Int))) (fun hb3 => ?_) (fun hb3 => ?_))))))))))))
 ·have hb3p := dec_t hb3
  refine CW.cond_f rfl (not_t hb3) (CW.skip (tn (CW.seq (CW.seq (CW.region (sd rfl (yl_assign rfl rfl (dn ?_))))))))
  refine CW.block (CW.loop (fun m5 L6 w7 => ∃ (k4 : Nat), m5 = p_a.length - k4 ∧ k4 ≤ p_a.length ∧ w.heap.size ≤ w7.heap.size ∧ lkp L6 0 = some (.slice A1 p_a.length c1) ∧ lkp L6 1 = some (.slice A2 p_b.length c2) ∧ lkp L6 5 = some (.int .i64 ((k4 : Int))) ∧ RdS w7 (Iv 0 w.heap.size) (RF e_Str) 1 A1 p_a.length c1 p_a ∧ RdS w7 (Iv 0 w.heap.size) (RF e_Str) 1 A2 p_b.length c2 p_b ∧ Ex w w7 ∧ loopM (B_l_eqStringS_0 p_a p_b) (p_a.length - k4) k4 () = loopM (B_l_eqStringS_0 p_a p_b) (p_a.length - 0) 0 ()) (p_a.length - 0) ?_ ?_)
  ·exact ⟨0, rfl, (by omega), Nat.le_refl _, rfl, rfl, rfl, h1, h2, (Ex.refl w), rfl⟩
  ·rintro m8 L9 w10 ⟨k4, rfl, hk11, hsz13, hl14, hl15, hl16, hf17, hf18, hf19, hI12⟩
   refine CW.sub (Sub.cons hl14 (Sub.cons hl15 (Sub.cons hl16 (Sub.nil _)))) ?_
   have hf19z := Ex.size hf19
   have hbg20 := RdS.big hf17
   rcases Nat.lt_or_ge k4 p_a.length with hlt21 | hlt21
   ·refine CW.seq (CW.seq (CW.region (sd rfl (yl_move rfl rfl (sd rfl (yl_move rfl rfl (sd rfl (yl_len un22 rfl rfl (sd rfl (yl_lss rfl rfl rfl (dn ?_)))))))))))
    refine CW.cond_t rfl (lt_t hlt21) (CW.skip (tn (CW.seq (CW.block (CW.seq ?_)))))
    obtain ⟨eb22, eo22, _, eA22, _, ebl22, _, eR22, eC22⟩ := RdS.aD hf17 d_Str (i := k4)
    obtain rfl := eR22
    have eC22 : Cells w10 eb22 (eo22 + k4 * 1) [.string (bs ((p_a.getD k4 d_Str)))] := eC22
    obtain ⟨eb23, eo23, _, eA23, _, ebl23, _, eR23, eC23⟩ := RdS.aD hf18 d_Str (i := k4)
    obtain rfl := eR23
    have eC23 : Cells w10 eb23 (eo23 + k4 * 1) [.string (bs ((p_b.getD k4 d_Str)))] := eC23
    refine CW.drawsI 9 (vgetI ([.slice A1 p_a.length c1, .int .i64 ((k4 : Int)), .pointer (some ⟨eb22, eo22 + k4 * 1, none⟩), .string (bs ((p_a.getD k4 d_Str))), .slice A2 p_b.length c2, .int .i64 ((k4 : Int)), .pointer (some ⟨eb23, eo23 + k4 * 1, none⟩), .string (bs ((p_b.getD k4 d_Str))), .bool (!((p_a.getD k4 d_Str) == (p_b.getD k4 d_Str)))].map DetI)) Tryz.follows rfl rfl rfl rfl rfl rfl (vgetI_stable (stD _)) ⟨?_, ?_, ?_, ?_, ?_, ?_, ?_, ?_, ?_, trivial⟩ ?_
    ·exact oI rfl fun h => yl_move rfl (h.old 0 _ rfl rfl) kI
    ·exact oI rfl fun h => yl_move rfl (h.old 5 _ rfl rfl) kI
    ·intro L34 w35 hi36
     have hE37 := hi36.ex
     have hE37z := Ex.size hE37
     exact os rfl ((yl_ixN un22 ty9 rfl (hi36.dt 0 17 rfl rfl rfl) (hi36.dt 1 18 rfl rfl rfl) eA22 kI))
    ·exact oI rfl fun h => yl_load1 ty9 rfl (h.dt 2 19 rfl rfl rfl) ((Cells.ex eC22 h.ex) 0 _ rfl) kI
    ·exact oI rfl fun h => yl_move rfl (h.old 1 _ rfl rfl) kI
    ·exact oI rfl fun h => yl_move rfl (h.old 5 _ rfl rfl) kI
    ·intro L56 w57 hi58
     have hE59 := hi58.ex
     have hE59z := Ex.size hE59
     exact os rfl ((yl_ixN un22 ty9 rfl (hi58.dt 4 21 rfl rfl rfl) (hi58.dt 5 22 rfl rfl rfl) eA23 kI))
    ·exact oI rfl fun h => yl_load1 ty9 rfl (h.dt 6 23 rfl rfl rfl) ((Cells.ex eC23 h.ex) 0 _ rfl) kI
    ·exact oI rfl fun h => yl_sneq (a := (p_a.getD k4 d_Str)) (b := (p_b.getD k4 d_Str)) rfl (h.dt 3 20 rfl rfl rfl) (h.dt 7 24 rfl rfl rfl) kI
    ·intro fl77 fh78 L74 w75 hp76
     have hE79 := hp76.ex
     have hE79z := Ex.size hE79
     refine dn (CW.sub (Sub.cons (d := 0) (hp76.old 0 _ rfl rfl) (Sub.cons (d := 1) (hp76.old 1 _ rfl rfl) (Sub.cons (d := 5) (hp76.old 5 _ rfl rfl) (Sub.cons (d := 25) (hp76.nt 8 25 rfl rfl rfl) (Sub.nil _))))) (bcase ((p_a.getD k4 d_Str) == (p_b.getD k4 d_Str)) (fun hb84 => ?_) (fun hb84 => ?_)))
     ·refine CW.cond_f rfl (not_t hb84) (CW.skip (bn (tn (CW.region (sd rfl (yl_move rfl rfl (sd rfl (yl_inc rfl rfl rfl (by omega) (sd rfl (yl_assign rfl rfl (SeqR.done ?_)))))))))))
      refine tn ?_
      have hB85 : B_l_eqStringS_0 p_a p_b k4 () = .cont () := by simp only [B_l_eqStringS_0, hb3, hb84, cL]
      exact ⟨p_a.length - (k4 + 1), by omega, k4 + 1, rfl, hlt21, (by omega), rfl, rfl, rfl, (RdS.ex good_Str hf17 hE79), (RdS.ex good_Str hf18 hE79), (Ex.trans hf19 hE79), (loopM.cont hlt21 hB85).symm.trans hI12⟩
     ·refine CW.cond_t rfl (not_f hb84) (CW.seq (CW.region (sd rfl (yl_assign rfl rfl (dn (CW.ret (br (tr ?_))))))))
      refine tr ?_
      have hB90 : B_l_eqStringS_0 p_a p_b k4 () = .ret false := by simp only [B_l_eqStringS_0, hb3, hb84, cL]
      have hL89 : loopM (B_l_eqStringS_0 p_a p_b) (p_a.length - 0) 0 () = .ret false := hI12.symm.trans (loopM.ret hlt21 hB90)
      refine br (tr (rr rfl (.cons rfl .nil) ?_))
      have hM91 : (l_eqStringS p_a p_b) = (false) := by simp only [l_eqStringS, hb3, hb84, hL89, cL]
      rw [hM91]
      exact ⟨rfl, (Ex.trans hf19 hE79)⟩
   ·refine CW.seq (CW.seq (CW.region (sd rfl (yl_move rfl rfl (sd rfl (yl_move rfl rfl (sd rfl (yl_len un22 rfl rfl (sd rfl (yl_lss rfl rfl rfl (dn ?_)))))))))))
    refine CW.cond_f rfl (lt_f hlt21) (CW.exit (tx (tx ?_)))
    have hL93 : loopM (B_l_eqStringS_0 p_a p_b) (p_a.length - 0) 0 () = .done () := hI12.symm.trans (loopM.stop hlt21)
    refine bx (tn (CW.seq (CW.region (sd rfl (yl_assign rfl rfl (dn (CW.ret (rr rfl (.cons rfl .nil) ?_))))))))
    have hM94 : (l_eqStringS p_a p_b) = (true) := by simp only [l_eqStringS, hb3, hL93, cL]
    rw [hM94]
    exact ⟨rfl, hf19⟩
 ·have hb3p := dec_f hb3
  refine CW.cond_t rfl (not_f hb3) (CW.seq (CW.region (sd rfl (yl_assign rfl rfl (dn (CW.ret (tr (rr rfl (.cons rfl .nil) ?_))))))))
  have hM95 : (l_eqStringS p_a p_b) = (false) := by simp only [l_eqStringS, hb3, cL]
  rw [hM95]
  exact ⟨rfl, (Ex.refl w)⟩
theorem c_l_eqIdx {w : World} (p_a : DIdx) (p_b : DIdx) : Cal Tryz.prog 72 #[.agg #[.string (bs (p_a.Name)), .int .i64 (p_a.Col), .int .i64 (p_a.Stage)], .agg #[.string (bs (p_b.Name)), .int .i64 (p_b.Col), .int .i64 (p_b.Stage)]] w fun v w' => v = .bool ((l_eqIdx p_a p_b)) ∧ Ex w w' := by
 refine Cal.of func72 rfl ntmps72 rfl (CW.seq (CW.region (sd rfl (yl_box rfl rfl rfl ?_))))
 intro b1 w2 hs3 hz4 hB5 hE6
 refine sd rfl (yl_box rfl rfl rfl ?_)
 intro b7 w8 hs9 hz10 hB11 hE12
 refine sd rfl (yl_assign rfl rfl (dn (CW.seq (CW.seq (CW.region (sd rfl (yl_fieldAddr fd104_0 rfl rfl ?_)))))))
 have q13 := Box.ex hB5 hE12
 refine sd rfl (yl_load1 ty9 rfl rfl ((q13.cell 0).trans rfl) (sd rfl (yl_fieldAddr fd104_0 rfl rfl (sd rfl (yl_load1 ty9 rfl rfl ((hB11.cell 0).trans rfl) (sd rfl (yl_sneq (a := p_a.Name) (b := p_b.Name) rfl rfl rfl (dn (bcase (p_a.Name == p_b.Name) (fun hb14 => ?_) (fun hb14 => ?_))))))))))
 ·refine CW.cond_f rfl (not_t hb14) (CW.skip (tn (CW.seq (CW.seq (CW.region (sd rfl (yl_fieldAddr fd104_1 rfl rfl (sd rfl (yl_load1 ty3 rfl rfl ((q13.cell 1).trans rfl) (sd rfl (yl_fieldAddr fd104_1 rfl rfl ?_)))))))))))
  refine sd rfl (yl_load1 ty3 rfl rfl ((hB11.cell 1).trans rfl) (sd rfl (yl_neq rfl rfl rfl (dn (bcase (decide (p_a.Col = p_b.Col)) (fun hb15 => ?_) (fun hb15 => ?_))))))
  ·have hb15p := dec_t hb15
   refine CW.cond_f rfl (not_t hb15) (CW.skip (tn (CW.seq (CW.seq (CW.region (sd rfl (yl_fieldAddr fd104_2 rfl rfl (sd rfl (yl_load1 ty3 rfl rfl ((q13.cell 2).trans rfl) (sd rfl (yl_fieldAddr fd104_2 rfl rfl ?_)))))))))))
   refine sd rfl (yl_load1 ty3 rfl rfl ((hB11.cell 2).trans rfl) (sd rfl (yl_neq rfl rfl rfl (dn (bcase (decide (p_a.Stage = p_b.Stage)) (fun hb16 => ?_) (fun hb16 => ?_))))))
   ·have hb16p := dec_t hb16
    refine CW.cond_f rfl (not_t hb16) (CW.skip (tn (CW.seq (CW.region (sd rfl (yl_assign rfl rfl (dn (CW.ret ?_))))))))
    refine rr rfl (.cons rfl .nil) ?_
    have hM17 : (l_eqIdx p_a p_b) = (true) := by simp only [l_eqIdx, hb14, hb15, hb16, cL]
    rw [hM17]
    exact ⟨rfl, (Ex.trans (Ex.trans (Ex.refl w) hE6) hE12)⟩
   ·have hb16p := dec_f hb16
    refine CW.cond_t rfl (not_f hb16) (CW.seq (CW.region (sd rfl (yl_assign rfl rfl (dn (CW.ret (tr (rr rfl (.cons rfl .nil) ?_))))))))
    have hM20 : (l_eqIdx p_a p_b) = (false) := by simp only [l_eqIdx, hb14, hb15, hb16, cL]
    rw [hM20]
    exact ⟨rfl, (Ex.trans (Ex.trans (Ex.refl w) hE6) hE12)⟩
  ·have hb15p := dec_f hb15
   refine CW.cond_t rfl (not_f hb15) (CW.seq (CW.region (sd rfl (yl_assign rfl rfl (dn (CW.ret (tr (rr rfl (.cons rfl .nil) ?_))))))))
   have hM23 : (l_eqIdx p_a p_b) = (false) := by simp only [l_eqIdx, hb14, hb15, cL]
   rw [hM23]
   exact ⟨rfl, (Ex.trans (Ex.trans (Ex.refl w) hE6) hE12)⟩
 ·refine CW.cond_t rfl (not_f hb14) (CW.seq (CW.region (sd rfl (yl_assign rfl rfl (dn (CW.ret (tr (rr rfl (.cons rfl .nil) ?_))))))))
  have hM26 : (l_eqIdx p_a p_b) = (false) := by simp only [l_eqIdx, hb14, cL]
  rw [hM26]
  exact ⟨rfl, (Ex.trans (Ex.trans (Ex.refl w) hE6) hE12)⟩
theorem c_l_eqIdxS {A1 : Option Addr} {c1 : Nat} {A2 : Option Addr} {c2 : Nat} {w : World} (p_a : List DIdx) (p_b : List DIdx) (h1 : RdS w (Iv 0 w.heap.size) (RF e_Idx) 3 A1 p_a.length c1 p_a) (h2 : RdS w (Iv 0 w.heap.size) (RF e_Idx) 3 A2 p_b.length c2 p_b) : Cal Tryz.prog 37 #[.slice A1 p_a.length c1, .slice A2 p_b.length c2] w fun v w' => v = .bool ((l_eqIdxS p_a p_b)) ∧ Ex w w' := by
 refine Cal.of func37 rfl ntmps37 rfl (CW.seq (CW.region (sd rfl (yl_assign rfl rfl (dn (CW.seq (CW.seq (CW.region ?_))))))))
 refine sd rfl (yl_move rfl rfl (sd rfl (yl_len un32 rfl rfl (sd rfl (yl_move rfl rfl (sd rfl (yl_len un32 rfl rfl (sd rfl (yl_neq rfl rfl rfl (dn (bcase (decide ((p_a.length : Int) = (p_b.length : Int))) (fun hb3 => ?_) (fun hb3 => ?_))))))))))))
 ·have hb3p := dec_t hb3
  refine CW.cond_f rfl (not_t hb3) (CW.skip (tn (CW.seq (CW.seq (CW.region (sd rfl (yl_assign rfl rfl (dn ?_))))))))
  refine CW.block (CW.loop (fun m5 L6 w7 => ∃ (k4 : Nat), m5 = p_a.length - k4 ∧ k4 ≤ p_a.length ∧ w.heap.size ≤ w7.heap.size ∧ lkp L6 0 = some (.slice A1 p_a.length c1) ∧ lkp L6 1 = some (.slice A2 p_b.length c2) ∧ lkp L6 5 = some (.int .i64 ((k4 : Int))) ∧ RdS w7 (Iv 0 w.heap.size) (RF e_Idx) 3 A1 p_a.length c1 p_a ∧ RdS w7 (Iv 0 w.heap.size) (RF e_Idx) 3 A2 p_b.length c2 p_b ∧ Ex w w7 ∧ loopM (B_l_eqIdxS_0 p_a p_b) (p_a.length - k4) k4 () = loopM (B_l_eqIdxS_0 p_a p_b) (p_a.length - 0) 0 ()) (p_a.length - 0) ?_ ?_)
  ·exact ⟨0, rfl, (by omega), Nat.le_refl _, rfl, rfl, rfl, h1, h2, (Ex.refl w), rfl⟩
  ·rintro m8 L9 w10 ⟨k4, rfl, hk11, hsz13, hl14, hl15, hl16, hf17, hf18, hf19, hI12⟩
   refine CW.sub (Sub.cons hl14 (Sub.cons hl15 (Sub.cons hl16 (Sub.nil _)))) ?_
   have hf19z := Ex.size hf19
   have hbg20 := RdS.big hf17
   rcases Nat.lt_or_ge k4 p_a.length with hlt21 | hlt21
   ·refine CW.seq (CW.seq (CW.region (sd rfl (yl_move rfl rfl (sd rfl (yl_move rfl rfl (sd rfl (yl_len un32 rfl rfl (sd rfl (yl_lss rfl rfl rfl (dn ?_)))))))))))
    refine CW.cond_t rfl (lt_t hlt21) (CW.skip (tn (CW.seq (CW.block (CW.seq ?_)))))
    obtain ⟨eb22, eo22, _, eA22, _, ebl22, _, eR22, eC22⟩ := RdS.aD hf17 d_Idx (i := k4)
    obtain rfl := eR22
    have eC22 : Cells w10 eb22 (eo22 + k4 * 3) [.string (bs ((p_a.getD k4 d_Idx).Name)), .int .i64 ((p_a.getD k4 d_Idx).Col), .int .i64 ((p_a.getD k4 d_Idx).Stage)] := eC22
    obtain ⟨eb23, eo23, _, eA23, _, ebl23, _, eR23, eC23⟩ := RdS.aD hf18 d_Idx (i := k4)
    obtain rfl := eR23
    have eC23 : Cells w10 eb23 (eo23 + k4 * 3) [.string (bs ((p_b.getD k4 d_Idx).Name)), .int .i64 ((p_b.getD k4 d_Idx).Col), .int .i64 ((p_b.getD k4 d_Idx).Stage)] := eC23
    refine CW.drawsI 10 (vgetI ([.slice A1 p_a.length c1, .int .i64 ((k4 : Int)), .pointer (some ⟨eb22, eo22 + k4 * 3, none⟩), .agg #[.string (bs ((p_a.getD k4 d_Idx).Name)), .int .i64 ((p_a.getD k4 d_Idx).Col), .int .i64 ((p_a.getD k4 d_Idx).Stage)], .slice A2 p_b.length c2, .int .i64 ((k4 : Int)), .pointer (some ⟨eb23, eo23 + k4 * 3, none⟩), .agg #[.string (bs ((p_b.getD k4 d_Idx).Name)), .int .i64 ((p_b.getD k4 d_Idx).Col), .int .i64 ((p_b.getD k4 d_Idx).Stage)], .bool ((l_eqIdx (p_a.getD k4 d_Idx) (p_b.getD k4 d_Idx))), .bool (!(l_eqIdx (p_a.getD k4 d_Idx) (p_b.getD k4 d_Idx)))].map DetI)) Tryz.follows rfl rfl rfl rfl rfl rfl (vgetI_stable (stD _)) ⟨?_, ?_, ?_, ?_, ?_, ?_, ?_, ?_, ?_, ?_, trivial⟩ ?_
    ·exact oI rfl fun h => yl_move rfl (h.old 0 _ rfl rfl) kI
    ·exact oI rfl fun h => yl_move rfl (h.old 5 _ rfl rfl) kI
    ·intro L35 w36 hi37
     have hE38 := hi37.ex
     have hE38z := Ex.size hE38
     exact os rfl ((yl_ixN un32 ty104 rfl (hi37.dt 0 17 rfl rfl rfl) (hi37.dt 1 18 rfl rfl rfl) eA22 kI))
    ·exact oI rfl fun h => yl_loadN ty104 rfl (h.dt 2 19 rfl rfl rfl) (Cells.ex eC22 h.ex) rfl kI
    ·exact oI rfl fun h => yl_move rfl (h.old 1 _ rfl rfl) kI
    ·exact oI rfl fun h => yl_move rfl (h.old 5 _ rfl rfl) kI
    ·intro L57 w58 hi59
     have hE60 := hi59.ex
     have hE60z := Ex.size hE60
     exact os rfl ((yl_ixN un32 ty104 rfl (hi59.dt 4 21 rfl rfl rfl) (hi59.dt 5 22 rfl rfl rfl) eA23 kI))
    ·exact oI rfl fun h => yl_loadN ty104 rfl (h.dt 6 23 rfl rfl rfl) (Cells.ex eC23 h.ex) rfl kI
    ·intro L69 w70 hi71
     exact OpR.op' rfl (yl_call en72 rfl (oc (hi71.dt 3 20 rfl rfl rfl) (oc (hi71.dt 7 24 rfl rfl rfl) oz)) (Cal.mono (c_l_eqIdx (p_a.getD k4 d_Idx) (p_b.getD k4 d_Idx)) fun _ _ h => h))
    ·exact oI rfl fun h => yl_not rfl (h.dt 8 25 rfl rfl rfl) kI
    ·intro fl86 fh87 L83 w84 hp85
     have hE88 := hp85.ex
     have hE88z := Ex.size hE88
     refine dn (CW.sub (Sub.cons (d := 0) (hp85.old 0 _ rfl rfl) (Sub.cons (d := 1) (hp85.old 1 _ rfl rfl) (Sub.cons (d := 5) (hp85.old 5 _ rfl rfl) (Sub.cons (d := 26) (hp85.nt 9 26 rfl rfl rfl) (Sub.nil _))))) (bcase (l_eqIdx (p_a.getD k4 d_Idx) (p_b.getD k4 d_Idx)) (fun hb93 => ?_) (fun hb93 => ?_)))
     ·refine CW.cond_f rfl (not_t hb93) (CW.skip (bn (tn (CW.region (sd rfl (yl_move rfl rfl (sd rfl (yl_inc rfl rfl rfl (by omega) (sd rfl (yl_assign rfl rfl (SeqR.done ?_)))))))))))
      refine tn ?_
      have hB94 : B_l_eqIdxS_0 p_a p_b k4 () = .cont () := by simp only [B_l_eqIdxS_0, hb3, hb93, cL]
      exact ⟨p_a.length - (k4 + 1), by omega, k4 + 1, rfl, hlt21, (by omega), rfl, rfl, rfl, (RdS.ex good_Idx hf17 hE88), (RdS.ex good_Idx hf18 hE88), (Ex.trans hf19 hE88), (loopM.cont hlt21 hB94).symm.trans hI12⟩
     ·refine CW.cond_t rfl (not_f hb93) (CW.seq (CW.region (sd rfl (yl_assign rfl rfl (dn (CW.ret (br (tr ?_))))))))
      refine tr ?_
      have hB99 : B_l_eqIdxS_0 p_a p_b k4 () = .ret false := by simp only [B_l_eqIdxS_0, hb3, hb93, cL]
      have hL98 : loopM (B_l_eqIdxS_0 p_a p_b) (p_a.length - 0) 0 () = .ret false := hI12.symm.trans (loopM.ret hlt21 hB99)
      refine br (tr (rr rfl (.cons rfl .nil) ?_))
      have hM100 : (l_eqIdxS p_a p_b) = (false) := by simp only [l_eqIdxS, hb3, hb93, hL98, cL]
      rw [hM100]
      exact ⟨rfl, (Ex.trans hf19 hE88)⟩
   ·refine CW.seq (CW.seq (CW.region (sd rfl (yl_move rfl rfl (sd rfl (yl_move rfl rfl (sd rfl (yl_len un32 rfl rfl (sd rfl (yl_lss rfl rfl rfl (dn ?_)))))))))))
    refine CW.cond_f rfl (lt_f hlt21) (CW.exit (tx (tx ?_)))
    have hL102 : loopM (B_l_eqIdxS_0 p_a p_b) (p_a.length - 0) 0 () = .done () := hI12.symm.trans (loopM.stop hlt21)
    refine bx (tn (CW.seq (CW.region (sd rfl (yl_assign rfl rfl (dn (CW.ret (rr rfl (.cons rfl .nil) ?_))))))))
    have hM103 : (l_eqIdxS p_a p_b) = (true) := by simp only [l_eqIdxS, hb3, hL102, cL]
    rw [hM103]
    exact ⟨rfl, hf19⟩
 ·have hb3p := dec_f hb3
  refine CW.cond_t rfl (not_f hb3) (CW.seq (CW.region (sd rfl (yl_assign rfl rfl (dn (CW.ret (tr (rr rfl (.cons rfl .nil) ?_))))))))
  have hM104 : (l_eqIdxS p_a p_b) = (false) := by simp only [l_eqIdxS, hb3, cL]
  rw [hM104]
  exact ⟨rfl, (Ex.refl w)⟩
theorem c_l_eqTable {A1 : Option Addr} {c1 : Nat} {A2 : Option Addr} {c2 : Nat} {A3 : Option Addr} {c3 : Nat} {A4 : Option Addr} {c4 : Nat} {w : World} (p_a : DTable) (p_b : DTable) (h1 : RdS w (Iv 0 w.heap.size) (RF e_Str) 1 A1 p_a.Cols.length c1 p_a.Cols) (h2 : RdS w (Iv 0 w.heap.size) (RF e_Idx) 3 A2 p_a.Idxs.length c2 p_a.Idxs) (h3 : RdS w (Iv 0 w.heap.size) (RF e_Str) 1 A3 p_b.Cols.length c3 p_b.Cols) (h4 : RdS w (Iv 0 w.heap.size) (RF e_Idx) 3 A4 p_b.Idxs.length c4 p_b.Idxs) : Cal Tryz.prog 12 #[.agg #[.string (bs (p_a.Name)), .slice A1 p_a.Cols.length c1, .slice A2 p_a.Idxs.length c2], .agg #[.string (bs (p_b.Name)), .slice A3 p_b.Cols.length c3, .slice A4 p_b.Idxs.length c4]] w fun v w' => v = .bool ((l_eqTable p_a p_b)) ∧ Ex w w' := by
 refine Cal.of func12 rfl ntmps12 rfl (CW.seq (CW.region (sd rfl (yl_box rfl rfl rfl ?_))))
 intro b5 w6 hs7 hz8 hB9 hE10
 refine sd rfl (yl_box rfl rfl rfl ?_)
 intro b11 w12 hs13 hz14 hB15 hE16
 refine sd rfl (yl_assign rfl rfl (dn (CW.seq (CW.seq (CW.region (sd rfl (yl_fieldAddr fd34_0 rfl rfl ?_)))))))
 have q17 := Box.ex hB9 hE16
 refine sd rfl (yl_load1 ty9 rfl rfl ((q17.cell 0).trans rfl) (sd rfl (yl_fieldAddr fd34_0 rfl rfl (sd rfl (yl_load1 ty9 rfl rfl ((hB15.cell 0).trans rfl) (sd rfl (yl_sneq (a := p_a.Name) (b := p_b.Name) rfl rfl rfl (dn (bcase (p_a.Name == p_b.Name) (fun hb18 => ?_) (fun hb18 => ?_))))))))))
 ·refine CW.cond_f rfl (not_t hb18) (CW.skip (tn (CW.seq (CW.seq (CW.region (sd rfl (yl_fieldAddr fd34_1 rfl rfl (sd rfl (yl_load1 ty22 rfl rfl ((q17.cell 1).trans rfl) (sd rfl (yl_fieldAddr fd34_1 rfl rfl ?_)))))))))))
  refine sd rfl (yl_load1 ty22 rfl rfl ((hB15.cell 1).trans rfl) (sd rfl (yl_call en36 rfl (oc rfl (oc rfl oz)) (Cal.mono (c_l_eqStringS p_a.Cols p_b.Cols (RdS.up (RdS.ex good_Str (RdS.ex good_Str h1 hE10) hE16) good_Str) (RdS.up (RdS.ex good_Str (RdS.ex good_Str h3 hE10) hE16) good_Str)) ?_))))
  rintro v24 w23 ⟨rfl, hE25⟩
  refine sd rfl (yl_not rfl rfl (dn (bcase (l_eqStringS p_a.Cols p_b.Cols) (fun hb26 => ?_) (fun hb26 => ?_))))
  ·refine CW.cond_f rfl (not_t hb26) (CW.skip (tn (CW.seq (CW.seq (CW.region (sd rfl (yl_fieldAddr fd34_2 rfl rfl (sd rfl (yl_load1 ty32 rfl rfl (((Box.ex q17 hE25).cell 2).trans rfl) (sd rfl (yl_fieldAddr fd34_2 rfl rfl ?_)))))))))))
   refine sd rfl (yl_load1 ty32 rfl rfl (((Box.ex hB15 hE25).cell 2).trans rfl) (sd rfl (yl_call en37 rfl (oc rfl (oc rfl oz)) (Cal.mono (c_l_eqIdxS p_a.Idxs p_b.Idxs (RdS.up (RdS.ex good_Idx (RdS.ex good_Idx (RdS.ex good_Idx h2 hE10) hE16) hE25) good_Idx) (RdS.up (RdS.ex good_Idx (RdS.ex good_Idx (RdS.ex good_Idx h4 hE10) hE16) hE25) good_Idx)) ?_))))
   rintro v36 w35 ⟨rfl, hE37⟩
   refine sd rfl (yl_not rfl rfl (dn (bcase (l_eqIdxS p_a.Idxs p_b.Idxs) (fun hb38 => ?_) (fun hb38 => ?_))))
   ·refine CW.cond_f rfl (not_t hb38) (CW.skip (tn (CW.seq (CW.region (sd rfl (yl_assign rfl rfl (dn (CW.ret ?_))))))))
    refine rr rfl (.cons rfl .nil) ?_
    have hM39 : (l_eqTable p_a p_b) = (true) := by simp only [l_eqTable, hb18, hb26, hb38, cL]
    rw [hM39]
    exact ⟨rfl, (Ex.trans (Ex.trans (Ex.trans (Ex.trans (Ex.refl w) hE10) hE16) hE25) hE37)⟩
   ·refine CW.cond_t rfl (not_f hb38) (CW.seq (CW.region (sd rfl (yl_assign rfl rfl (dn (CW.ret (tr (rr rfl (.cons rfl .nil) ?_))))))))
    have hM44 : (l_eqTable p_a p_b) = (false) := by simp only [l_eqTable, hb18, hb26, hb38, cL]
    rw [hM44]
    exact ⟨rfl, (Ex.trans (Ex.trans (Ex.trans (Ex.trans (Ex.refl w) hE10) hE16) hE25) hE37)⟩
  ·refine CW.cond_t rfl (not_f hb26) (CW.seq (CW.region (sd rfl (yl_assign rfl rfl (dn (CW.ret (tr (rr rfl (.cons rfl .nil) ?_))))))))
   have hM49 : (l_eqTable p_a p_b) = (false) := by simp only [l_eqTable, hb18, hb26, cL]
   rw [hM49]
   exact ⟨rfl, (Ex.trans (Ex.trans (Ex.trans (Ex.refl w) hE10) hE16) hE25)⟩
 ·refine CW.cond_t rfl (not_f hb18) (CW.seq (CW.region (sd rfl (yl_assign rfl rfl (dn (CW.ret (tr (rr rfl (.cons rfl .nil) ?_))))))))
  have hM53 : (l_eqTable p_a p_b) = (false) := by simp only [l_eqTable, hb18, cL]
  rw [hM53]
  exact ⟨rfl, (Ex.trans (Ex.trans (Ex.refl w) hE10) hE16)⟩
theorem c_l_eqTableS {A1 : Option Addr} {c1 : Nat} {A2 : Option Addr} {c2 : Nat} {w : World} (p_a : List DTable) (p_b : List DTable) (h1 : RdS w (Iv 0 w.heap.size) R_Table 3 A1 p_a.length c1 p_a) (h2 : RdS w (Iv 0 w.heap.size) R_Table 3 A2 p_b.length c2 p_b) : Cal Tryz.prog 92 #[.slice A1 p_a.length c1, .slice A2 p_b.length c2] w fun v w' => v = .bool ((l_eqTableS p_a p_b)) ∧ Ex w w' := by
 refine Cal.of func92 rfl ntmps92 rfl (CW.seq (CW.region (sd rfl (yl_assign rfl rfl (dn (CW.seq (CW.seq (CW.region ?_))))))))
 refine sd rfl (yl_move rfl rfl (sd rfl (yl_len un56 rfl rfl (sd rfl (yl_move rfl rfl (sd rfl (yl_len un56 rfl rfl (sd rfl (yl_neq rfl rfl rfl (dn (bcase (decide ((p_a.length : Int) = (p_b.length : Int))) (fun hb3 => ?_) (fun hb3 => ?_))))))))))))
 ·have hb3p := dec_t hb3
  refine CW.cond_f rfl (not_t hb3) (CW.skip (tn (CW.seq (CW.seq (CW.region (sd rfl (yl_assign rfl rfl (dn ?_))))))))
  refine CW.block (CW.loop (fun m5 L6 w7 => ∃ (k4 : Nat), m5 = p_a.length - k4 ∧ k4 ≤ p_a.length ∧ w.heap.size ≤ w7.heap.size ∧ lkp L6 0 = some (.slice A1 p_a.length c1) ∧ lkp L6 1 = some (.slice A2 p_b.length c2) ∧ lkp L6 5 = some (.int .i64 ((k4 : Int))) ∧ RdS w7 (Iv 0 w.heap.size) R_Table 3 A1 p_a.length c1 p_a ∧ RdS w7 (Iv 0 w.heap.size) R_Table 3 A2 p_b.length c2 p_b ∧ Ex w w7 ∧ loopM (B_l_eqTableS_0 p_a p_b) (p_a.length - k4) k4 () = loopM (B_l_eqTableS_0 p_a p_b) (p_a.length - 0) 0 ()) (p_a.length - 0) ?_ ?_)
  ·exact ⟨0, rfl, (by omega), Nat.le_refl _, rfl, rfl, rfl, h1, h2, (Ex.refl w), rfl⟩
  ·rintro m8 L9 w10 ⟨k4, rfl, hk11, hsz13, hl14, hl15, hl16, hf17, hf18, hf19, hI12⟩
   refine CW.sub (Sub.cons hl14 (Sub.cons hl15 (Sub.cons hl16 (Sub.nil _)))) ?_
   have hf19z := Ex.size hf19
   have hbg20 := RdS.big hf17
   rcases Nat.lt_or_ge k4 p_a.length with hlt21 | hlt21
   ·refine CW.seq (CW.seq (CW.region (sd rfl (yl_move rfl rfl (sd rfl (yl_move rfl rfl (sd rfl (yl_len un56 rfl rfl (sd rfl (yl_lss rfl rfl rfl (dn ?_)))))))))))
    refine CW.cond_t rfl (lt_t hlt21) (CW.skip (tn (CW.seq (CW.block (CW.seq ?_)))))
    obtain ⟨eb22, eo22, _, eA22, _, ebl22, _, eR22, eC22⟩ := RdS.aD hf17 d_Table (i := k4)
    obtain ⟨A23, c23, A24, c24, rfl, h23, h24⟩ := eR22
    obtain ⟨eb25, eo25, _, eA25, _, ebl25, _, eR25, eC25⟩ := RdS.aD hf18 d_Table (i := k4)
    obtain ⟨A26, c26, A27, c27, rfl, h26, h27⟩ := eR25
    refine CW.drawsI 10 (vgetI ([.slice A1 p_a.length c1, .int .i64 ((k4 : Int)), .pointer (some ⟨eb22, eo22 + k4 * 3, none⟩), .agg #[.string (bs ((p_a.getD k4 d_Table).Name)), .slice A23 (((p_a.getD k4 d_Table).Cols).length) c23, .slice A24 (((p_a.getD k4 d_Table).Idxs).length) c24], .slice A2 p_b.length c2, .int .i64 ((k4 : Int)), .pointer (some ⟨eb25, eo25 + k4 * 3, none⟩), .agg #[.string (bs ((p_b.getD k4 d_Table).Name)), .slice A26 (((p_b.getD k4 d_Table).Cols).length) c26, .slice A27 (((p_b.getD k4 d_Table).Idxs).length) c27], .bool ((l_eqTable (p_a.getD k4 d_Table) (p_b.getD k4 d_Table))), .bool (!(l_eqTable (p_a.getD k4 d_Table) (p_b.getD k4 d_Table)))].map DetI)) Tryz.follows rfl rfl rfl rfl rfl rfl (vgetI_stable (stD _)) ⟨?_, ?_, ?_, ?_, ?_, ?_, ?_, ?_, ?_, ?_, trivial⟩ ?_
    ·exact oI rfl fun h => yl_move rfl (h.old 0 _ rfl rfl) kI
    ·exact oI rfl fun h => yl_move rfl (h.old 5 _ rfl rfl) kI
    ·intro L39 w40 hi41
     have hE42 := hi41.ex
     have hE42z := Ex.size hE42
     exact os rfl ((yl_ixN un56 ty34 rfl (hi41.dt 0 17 rfl rfl rfl) (hi41.dt 1 18 rfl rfl rfl) eA22 kI))
    ·exact oI rfl fun h => yl_loadN ty34 rfl (h.dt 2 19 rfl rfl rfl) (Cells.ex eC22 h.ex) rfl kI
    ·exact oI rfl fun h => yl_move rfl (h.old 1 _ rfl rfl) kI
    ·exact oI rfl fun h => yl_move rfl (h.old 5 _ rfl rfl) kI
    ·intro L61 w62 hi63
     have hE64 := hi63.ex
     have hE64z := Ex.size hE64
     exact os rfl ((yl_ixN un56 ty34 rfl (hi63.dt 4 21 rfl rfl rfl) (hi63.dt 5 22 rfl rfl rfl) eA25 kI))
    ·exact oI rfl fun h => yl_loadN ty34 rfl (h.dt 6 23 rfl rfl rfl) (Cells.ex eC25 h.ex) rfl kI
    ·intro L73 w74 hi75
     have hE76 := hi75.ex
     exact OpR.op' rfl (yl_call en12 rfl (oc (hi75.dt 3 20 rfl rfl rfl) (oc (hi75.dt 7 24 rfl rfl rfl) oz)) (Cal.mono (c_l_eqTable (p_a.getD k4 d_Table) (p_b.getD k4 d_Table) (RdS.up (RdS.ex good_Str h23 hE76) good_Str) (RdS.up (RdS.ex good_Idx h24 hE76) good_Idx) (RdS.up (RdS.ex good_Str h26 hE76) good_Str) (RdS.up (RdS.ex good_Idx h27 hE76) good_Idx)) fun _ _ h => h))
    ·exact oI rfl fun h => yl_not rfl (h.dt 8 25 rfl rfl rfl) kI
    ·intro fl94 fh95 L91 w92 hp93
     have hE96 := hp93.ex
     have hE96z := Ex.size hE96
     refine dn (CW.sub (Sub.cons (d := 0) (hp93.old 0 _ rfl rfl) (Sub.cons (d := 1) (hp93.old 1 _ rfl rfl) (Sub.cons (d := 5) (hp93.old 5 _ rfl rfl) (Sub.cons (d := 26) (hp93.nt 9 26 rfl rfl rfl) (Sub.nil _))))) (bcase (l_eqTable (p_a.getD k4 d_Table) (p_b.getD k4 d_Table)) (fun hb101 => ?_) (fun hb101 => ?_)))
     ·refine CW.cond_f rfl (not_t hb101) (CW.skip (bn (tn (CW.region (sd rfl (yl_move rfl rfl (sd rfl (yl_inc rfl rfl rfl (by omega) (sd rfl (yl_assign rfl rfl (SeqR.done ?_)))))))))))
      refine tn ?_
      have hB102 : B_l_eqTableS_0 p_a p_b k4 () = .cont () := by simp only [B_l_eqTableS_0, hb3, hb101, cL]
      exact ⟨p_a.length - (k4 + 1), by omega, k4 + 1, rfl, hlt21, (by omega), rfl, rfl, rfl, (RdS.ex good_Table hf17 hE96), (RdS.ex good_Table hf18 hE96), (Ex.trans hf19 hE96), (loopM.cont hlt21 hB102).symm.trans hI12⟩
     ·refine CW.cond_t rfl (not_f hb101) (CW.seq (CW.region (sd rfl (yl_assign rfl rfl (dn (CW.ret (br (tr ?_))))))))
      refine tr ?_
      have hB107 : B_l_eqTableS_0 p_a p_b k4 () = .ret false := by simp only [B_l_eqTableS_0, hb3, hb101, cL]
      have hL106 : loopM (B_l_eqTableS_0 p_a p_b) (p_a.length - 0) 0 () = .ret false := hI12.symm.trans (loopM.ret hlt21 hB107)
      refine br (tr (rr rfl (.cons rfl .nil) ?_))
      have hM108 : (l_eqTableS p_a p_b) = (false) := by simp only [l_eqTableS, hb3, hb101, hL106, cL]
      rw [hM108]
      exact ⟨rfl, (Ex.trans hf19 hE96)⟩
   ·refine CW.seq (CW.seq (CW.region (sd rfl (yl_move rfl rfl (sd rfl (yl_move rfl rfl (sd rfl (yl_len un56 rfl rfl (sd rfl (yl_lss rfl rfl rfl (dn ?_)))))))))))
    refine CW.cond_f rfl (lt_f hlt21) (CW.exit (tx (tx ?_)))
    have hL110 : loopM (B_l_eqTableS_0 p_a p_b) (p_a.length - 0) 0 () = .done () := hI12.symm.trans (loopM.stop hlt21)
    refine bx (tn (CW.seq (CW.region (sd rfl (yl_assign rfl rfl (dn (CW.ret (rr rfl (.cons rfl .nil) ?_))))))))
    have hM111 : (l_eqTableS p_a p_b) = (true) := by simp only [l_eqTableS, hb3, hL110, cL]
    rw [hM111]
    exact ⟨rfl, hf19⟩
 ·have hb3p := dec_f hb3
  refine CW.cond_t rfl (not_f hb3) (CW.seq (CW.region (sd rfl (yl_assign rfl rfl (dn (CW.ret (tr (rr rfl (.cons rfl .nil) ?_))))))))
  have hM112 : (l_eqTableS p_a p_b) = (false) := by simp only [l_eqTableS, hb3, cL]
  rw [hM112]
  exact ⟨rfl, (Ex.refl w)⟩
theorem c_l_eqIntS {A1 : Option Addr} {c1 : Nat} {A2 : Option Addr} {c2 : Nat} {w : World} (p_a : List Int) (p_b : List Int) (h1 : RdS w (Iv 0 w.heap.size) (RF e_Int) 1 A1 p_a.length c1 p_a) (h2 : RdS w (Iv 0 w.heap.size) (RF e_Int) 1 A2 p_b.length c2 p_b) : Cal Tryz.prog 93 #[.slice A1 p_a.length c1, .slice A2 p_b.length c2] w fun v w' => v = .bool ((l_eqIntS p_a p_b)) ∧ Ex w w' := by
 refine Cal.of func93 rfl ntmps93 rfl (CW.seq (CW.region (sd rfl (yl_assign rfl rfl (dn (CW.seq (CW.seq (CW.region ?_))))))))
 refine sd rfl (yl_move rfl rfl (sd rfl (yl_len un46 rfl rfl (sd rfl (yl_move rfl rfl (sd rfl (yl_len un46 rfl rfl (sd rfl (yl_neq rfl rfl rfl (dn (bcase (decide ((p_a.length : Int) = (p_b.length : Int))) (fun hb3 => ?_) (fun hb3 => ?_))))))))))))
 ·have hb3p := dec_t hb3
  refine CW.cond_f rfl (not_t hb3) (CW.skip (tn (CW.seq (CW.seq (CW.region (sd rfl (yl_assign rfl rfl (dn ?_))))))))
  refine CW.block (CW.loop (fun m5 L6 w7 => ∃ (k4 : Nat), m5 = p_a.length - k4 ∧ k4 ≤ p_a.length ∧ w.heap.size ≤ w7.heap.size ∧ lkp L6 0 = some (.slice A1 p_a.length c1) ∧ lkp L6 1 = some (.slice A2 p_b.length c2) ∧ lkp L6 5 = some (.int .i64 ((k4 : Int))) ∧ RdS w7 (Iv 0 w.heap.size) (RF e_Int) 1 A1 p_a.length c1 p_a ∧ RdS w7 (Iv 0 w.heap.size) (RF e_Int) 1 A2 p_b.length c2 p_b ∧ Ex w w7 ∧ loopM (B_l_eqIntS_0 p_a p_b) (p_a.length - k4) k4 () = loopM (B_l_eqIntS_0 p_a p_b) (p_a.length - 0) 0 ()) (p_a.length - 0) ?_ ?_)
  ·exact ⟨0, rfl, (by omega), Nat.le_refl _, rfl, rfl, rfl, h1, h2, (Ex.refl w), rfl⟩
  ·rintro m8 L9 w10 ⟨k4, rfl, hk11, hsz13, hl14, hl15, hl16, hf17, hf18, hf19, hI12⟩
   refine CW.sub (Sub.cons hl14 (Sub.cons hl15 (Sub.cons hl16 (Sub.nil _)))) ?_
   have hf19z := Ex.size hf19
   have hbg20 := RdS.big hf17
   rcases Nat.lt_or_ge k4 p_a.length with hlt21 | hlt21
   ·refine CW.seq (CW.seq (CW.region (sd rfl (yl_move rfl rfl (sd rfl (yl_move rfl rfl (sd rfl (yl_len un46 rfl rfl (sd rfl (yl_lss rfl rfl rfl (dn ?_)))))))))))
    refine CW.cond_t rfl (lt_t hlt21) (CW.skip (tn (CW.seq (CW.block (CW.seq ?_)))))
    obtain ⟨eb22, eo22, _, eA22, _, ebl22, _, eR22, eC22⟩ := RdS.aD hf17 d_Int (i := k4)
    obtain rfl := eR22
    have eC22 : Cells w10 eb22 (eo22 + k4 * 1) [.int .i64 ((p_a.getD k4 d_Int))] := eC22
    obtain ⟨eb23, eo23, _, eA23, _, ebl23, _, eR23, eC23⟩ := RdS.aD hf18 d_Int (i := k4)
    obtain rfl := eR23
    have eC23 : Cells w10 eb23 (eo23 + k4 * 1) [.int .i64 ((p_b.getD k4 d_Int))] := eC23
    refine CW.drawsI 9 (vgetI ([.slice A1 p_a.length c1, .int .i64 ((k4 : Int)), .pointer (some ⟨eb22, eo22 + k4 * 1, none⟩), .int .i64 ((p_a.getD k4 d_Int)), .slice A2 p_b.length c2, .int .i64 ((k4 : Int)), .pointer (some ⟨eb23, eo23 + k4 * 1, none⟩), .int .i64 ((p_b.getD k4 d_Int)), .bool (!(decide ((p_a.getD k4 d_Int) = (p_b.getD k4 d_Int))))].map DetI)) Tryz.follows rfl rfl rfl rfl rfl rfl (vgetI_stable (stD _)) ⟨?_, ?_, ?_, ?_, ?_, ?_, ?_, ?_, ?_, trivial⟩ ?_
    ·exact oI rfl fun h => yl_move rfl (h.old 0 _ rfl rfl) kI
    ·exact oI rfl fun h => yl_move rfl (h.old 5 _ rfl rfl) kI
    ·intro L34 w35 hi36
     have hE37 := hi36.ex
     have hE37z := Ex.size hE37
     exact os rfl ((yl_ixN un46 ty3 rfl (hi36.dt 0 17 rfl rfl rfl) (hi36.dt 1 18 rfl rfl rfl) eA22 kI))
    ·exact oI rfl fun h => yl_load1 ty3 rfl (h.dt 2 19 rfl rfl rfl) ((Cells.ex eC22 h.ex) 0 _ rfl) kI
    ·exact oI rfl fun h => yl_move rfl (h.old 1 _ rfl rfl) kI
    ·exact oI rfl fun h => yl_move rfl (h.old 5 _ rfl rfl) kI
    ·intro L56 w57 hi58
     have hE59 := hi58.ex
     have hE59z := Ex.size hE59
     exact os rfl ((yl_ixN un46 ty3 rfl (hi58.dt 4 21 rfl rfl rfl) (hi58.dt 5 22 rfl rfl rfl) eA23 kI))
    ·exact oI rfl fun h => yl_load1 ty3 rfl (h.dt 6 23 rfl rfl rfl) ((Cells.ex eC23 h.ex) 0 _ rfl) kI
    ·exact oI rfl fun h => yl_neq rfl (h.dt 3 20 rfl rfl rfl) (h.dt 7 24 rfl rfl rfl) kI
    ·intro fl77 fh78 L74 w75 hp76
     have hE79 := hp76.ex
     have hE79z := Ex.size hE79
     refine dn (CW.sub (Sub.cons (d := 0) (hp76.old 0 _ rfl rfl) (Sub.cons (d := 1) (hp76.old 1 _ rfl rfl) (Sub.cons (d := 5) (hp76.old 5 _ rfl rfl) (Sub.cons (d := 25) (hp76.nt 8 25 rfl rfl rfl) (Sub.nil _))))) (bcase (decide ((p_a.getD k4 d_Int) = (p_b.getD k4 d_Int))) (fun hb84 => ?_) (fun hb84 => ?_)))
     ·have hb84p := dec_t hb84
      refine CW.cond_f rfl (not_t hb84) (CW.skip (bn (tn (CW.region (sd rfl (yl_move rfl rfl (sd rfl (yl_inc rfl rfl rfl (by omega) (sd rfl (yl_assign rfl rfl (SeqR.done ?_)))))))))))
      refine tn ?_
      have hB85 : B_l_eqIntS_0 p_a p_b k4 () = .cont () := by simp only [B_l_eqIntS_0, hb3, hb84, cL]
      exact ⟨p_a.length - (k4 + 1), by omega, k4 + 1, rfl, hlt21, (by omega), rfl, rfl, rfl, (RdS.ex good_Int hf17 hE79), (RdS.ex good_Int hf18 hE79), (Ex.trans hf19 hE79), (loopM.cont hlt21 hB85).symm.trans hI12⟩
     ·have hb84p := dec_f hb84
      refine CW.cond_t rfl (not_f hb84) (CW.seq (CW.region (sd rfl (yl_assign rfl rfl (dn (CW.ret (br (tr ?_))))))))
      refine tr ?_
      have hB90 : B_l_eqIntS_0 p_a p_b k4 () = .ret false := by simp only [B_l_eqIntS_0, hb3, hb84, cL]
      have hL89 : loopM (B_l_eqIntS_0 p_a p_b) (p_a.length - 0) 0 () = .ret false := hI12.symm.trans (loopM.ret hlt21 hB90)
      refine br (tr (rr rfl (.cons rfl .nil) ?_))
      have hM91 : (l_eqIntS p_a p_b) = (false) := by simp only [l_eqIntS, hb3, hb84, hL89, cL]
      rw [hM91]
      exact ⟨rfl, (Ex.trans hf19 hE79)⟩
   ·refine CW.seq (CW.seq (CW.region (sd rfl (yl_move rfl rfl (sd rfl (yl_move rfl rfl (sd rfl (yl_len un46 rfl rfl (sd rfl (yl_lss rfl rfl rfl (dn ?_)))))))))))
    refine CW.cond_f rfl (lt_f hlt21) (CW.exit (tx (tx ?_)))
    have hL93 : loopM (B_l_eqIntS_0 p_a p_b) (p_a.length - 0) 0 () = .done () := hI12.symm.trans (loopM.stop hlt21)
    refine bx (tn (CW.seq (CW.region (sd rfl (yl_assign rfl rfl (dn (CW.ret (rr rfl (.cons rfl .nil) ?_))))))))
    have hM94 : (l_eqIntS p_a p_b) = (true) := by simp only [l_eqIntS, hb3, hL93, cL]
    rw [hM94]
    exact ⟨rfl, hf19⟩
 ·have hb3p := dec_f hb3
  refine CW.cond_t rfl (not_f hb3) (CW.seq (CW.region (sd rfl (yl_assign rfl rfl (dn (CW.ret (tr (rr rfl (.cons rfl .nil) ?_))))))))
  have hM95 : (l_eqIntS p_a p_b) = (false) := by simp only [l_eqIntS, hb3, cL]
  rw [hM95]
  exact ⟨rfl, (Ex.refl w)⟩
theorem c_l_eqShift {A1 : Option Addr} {c1 : Nat} {A2 : Option Addr} {c2 : Nat} {A3 : Option Addr} {c3 : Nat} {A4 : Option Addr} {c4 : Nat} {A5 : Option Addr} {c5 : Nat} {A6 : Option Addr} {c6 : Nat} {w : World} (p_a : DShift) (p_b : DShift) (h1 : RdS w (Iv 0 w.heap.size) R_Table 3 A1 p_a.Ways.length c1 p_a.Ways) (h2 : RdS w (Iv 0 w.heap.size) (RF e_Int) 1 A2 p_a.At.length c2 p_a.At) (h3 : RdS w (Iv 0 w.heap.size) (RF e_Write) 3 A3 p_a.Store.length c3 p_a.Store) (h4 : RdS w (Iv 0 w.heap.size) R_Table 3 A4 p_b.Ways.length c4 p_b.Ways) (h5 : RdS w (Iv 0 w.heap.size) (RF e_Int) 1 A5 p_b.At.length c5 p_b.At) (h6 : RdS w (Iv 0 w.heap.size) (RF e_Write) 3 A6 p_b.Store.length c6 p_b.Store) : Cal Tryz.prog 56 #[.agg #[.string (bs (p_a.Name)), .slice A1 p_a.Ways.length c1, .slice A2 p_a.At.length c2, .slice A3 p_a.Store.length c3], .agg #[.string (bs (p_b.Name)), .slice A4 p_b.Ways.length c4, .slice A5 p_b.At.length c5, .slice A6 p_b.Store.length c6]] w fun v w' => v = .bool ((l_eqShift p_a p_b)) ∧ Ex w w' := by
 refine Cal.of func56 rfl ntmps56 rfl (CW.seq (CW.region (sd rfl (yl_box rfl rfl rfl ?_))))
 intro b7 w8 hs9 hz10 hB11 hE12
 refine sd rfl (yl_box rfl rfl rfl ?_)
 intro b13 w14 hs15 hz16 hB17 hE18
 refine sd rfl (yl_assign rfl rfl (dn (CW.seq (CW.seq (CW.region (sd rfl (yl_fieldAddr fd58_0 rfl rfl ?_)))))))
 have q19 := Box.ex hB11 hE18
 refine sd rfl (yl_load1 ty9 rfl rfl ((q19.cell 0).trans rfl) (sd rfl (yl_fieldAddr fd58_0 rfl rfl (sd rfl (yl_load1 ty9 rfl rfl ((hB17.cell 0).trans rfl) (sd rfl (yl_sneq (a := p_a.Name) (b := p_b.Name) rfl rfl rfl (dn (bcase (p_a.Name == p_b.Name) (fun hb20 => ?_) (fun hb20 => ?_))))))))))
 ·refine CW.cond_f rfl (not_t hb20) (CW.skip (tn (CW.seq (CW.seq (CW.region (sd rfl (yl_fieldAddr fd58_1 rfl rfl (sd rfl (yl_load1 ty56 rfl rfl ((q19.cell 1).trans rfl) (sd rfl (yl_fieldAddr fd58_1 rfl rfl ?_)))))))))))
  refine sd rfl (yl_load1 ty56 rfl rfl ((hB17.cell 1).trans rfl) (sd rfl (yl_call en92 rfl (oc rfl (oc rfl oz)) (Cal.mono (c_l_eqTableS p_a.Ways p_b.Ways (RdS.up (RdS.ex good_Table (RdS.ex good_Table h1 hE12) hE18) good_Table) (RdS.up (RdS.ex good_Table (RdS.ex good_Table h4 hE12) hE18) good_Table)) ?_))))
  rintro v26 w25 ⟨rfl, hE27⟩
  refine sd rfl (yl_not rfl rfl (dn (bcase (l_eqTableS p_a.Ways p_b.Ways) (fun hb28 => ?_) (fun hb28 => ?_))))
  ·refine CW.cond_f rfl (not_t hb28) (CW.skip (tn (CW.seq (CW.seq (CW.region (sd rfl (yl_fieldAddr fd58_2 rfl rfl ?_)))))))
   have q29 := Box.ex q19 hE27
   refine sd rfl (yl_load1 ty46 rfl rfl ((q29.cell 2).trans rfl) (sd rfl (yl_fieldAddr fd58_2 rfl rfl ?_)))
   have q30 := Box.ex hB17 hE27
   refine sd rfl (yl_load1 ty46 rfl rfl ((q30.cell 2).trans rfl) (sd rfl (yl_call en93 rfl (oc rfl (oc rfl oz)) (Cal.mono (c_l_eqIntS p_a.At p_b.At (RdS.up (RdS.ex good_Int (RdS.ex good_Int (RdS.ex good_Int h2 hE12) hE18) hE27) good_Int) (RdS.up (RdS.ex good_Int (RdS.ex good_Int (RdS.ex good_Int h5 hE12) hE18) hE27) good_Int)) ?_))))
   rintro v38 w37 ⟨rfl, hE39⟩
   refine sd rfl (yl_not rfl rfl (dn (bcase (l_eqIntS p_a.At p_b.At) (fun hb40 => ?_) (fun hb40 => ?_))))
   ·refine CW.cond_f rfl (not_t hb40) (CW.skip (tn (CW.seq (CW.seq (CW.region (sd rfl (yl_fieldAddr fd58_3 rfl rfl (sd rfl (yl_load1 ty36 rfl rfl (((Box.ex q29 hE39).cell 3).trans rfl) (sd rfl (yl_fieldAddr fd58_3 rfl rfl ?_)))))))))))
    refine sd rfl (yl_load1 ty36 rfl rfl (((Box.ex q30 hE39).cell 3).trans rfl) (sd rfl (yl_call en13 rfl (oc rfl (oc rfl oz)) (Cal.mono (c_l_eqWriteS p_a.Store p_b.Store (RdS.up (RdS.ex good_Write (RdS.ex good_Write (RdS.ex good_Write (RdS.ex good_Write h3 hE12) hE18) hE27) hE39) good_Write) (RdS.up (RdS.ex good_Write (RdS.ex good_Write (RdS.ex good_Write (RdS.ex good_Write h6 hE12) hE18) hE27) hE39) good_Write)) ?_))))
    rintro v52 w51 ⟨rfl, hE53⟩
    refine sd rfl (yl_not rfl rfl (dn (bcase (l_eqWriteS p_a.Store p_b.Store) (fun hb54 => ?_) (fun hb54 => ?_))))
    ·refine CW.cond_f rfl (not_t hb54) (CW.skip (tn (CW.seq (CW.region (sd rfl (yl_assign rfl rfl (dn (CW.ret ?_))))))))
     refine rr rfl (.cons rfl .nil) ?_
     have hM55 : (l_eqShift p_a p_b) = (true) := by simp only [l_eqShift, hb20, hb28, hb40, hb54, cL]
     rw [hM55]
     exact ⟨rfl, (Ex.trans (Ex.trans (Ex.trans (Ex.trans (Ex.trans (Ex.refl w) hE12) hE18) hE27) hE39) hE53)⟩
    ·refine CW.cond_t rfl (not_f hb54) (CW.seq (CW.region (sd rfl (yl_assign rfl rfl (dn (CW.ret (tr (rr rfl (.cons rfl .nil) ?_))))))))
     have hM61 : (l_eqShift p_a p_b) = (false) := by simp only [l_eqShift, hb20, hb28, hb40, hb54, cL]
     rw [hM61]
     exact ⟨rfl, (Ex.trans (Ex.trans (Ex.trans (Ex.trans (Ex.trans (Ex.refl w) hE12) hE18) hE27) hE39) hE53)⟩
   ·refine CW.cond_t rfl (not_f hb40) (CW.seq (CW.region (sd rfl (yl_assign rfl rfl (dn (CW.ret (tr (rr rfl (.cons rfl .nil) ?_))))))))
    have hM67 : (l_eqShift p_a p_b) = (false) := by simp only [l_eqShift, hb20, hb28, hb40, cL]
    rw [hM67]
    exact ⟨rfl, (Ex.trans (Ex.trans (Ex.trans (Ex.trans (Ex.refl w) hE12) hE18) hE27) hE39)⟩
  ·refine CW.cond_t rfl (not_f hb28) (CW.seq (CW.region (sd rfl (yl_assign rfl rfl (dn (CW.ret (tr (rr rfl (.cons rfl .nil) ?_))))))))
   have hM72 : (l_eqShift p_a p_b) = (false) := by simp only [l_eqShift, hb20, hb28, cL]
   rw [hM72]
   exact ⟨rfl, (Ex.trans (Ex.trans (Ex.trans (Ex.refl w) hE12) hE18) hE27)⟩
 ·refine CW.cond_t rfl (not_f hb20) (CW.seq (CW.region (sd rfl (yl_assign rfl rfl (dn (CW.ret (tr (rr rfl (.cons rfl .nil) ?_))))))))
  have hM76 : (l_eqShift p_a p_b) = (false) := by simp only [l_eqShift, hb20, cL]
  rw [hM76]
  exact ⟨rfl, (Ex.trans (Ex.trans (Ex.refl w) hE12) hE18)⟩
theorem c_l_eqFill {w : World} (p_a : DFill) (p_b : DFill) : Cal Tryz.prog 57 #[.agg #[.string (bs (p_a.Last)), .bool (p_a.Over)], .agg #[.string (bs (p_b.Last)), .bool (p_b.Over)]] w fun v w' => v = .bool ((l_eqFill p_a p_b)) ∧ Ex w w' := by
 refine Cal.of func57 rfl ntmps57 rfl (CW.seq (CW.region (sd rfl (yl_box rfl rfl rfl ?_))))
 intro b1 w2 hs3 hz4 hB5 hE6
 refine sd rfl (yl_box rfl rfl rfl ?_)
 intro b7 w8 hs9 hz10 hB11 hE12
 refine sd rfl (yl_assign rfl rfl (dn (CW.seq (CW.seq (CW.region (sd rfl (yl_fieldAddr fd59_0 rfl rfl ?_)))))))
 have q13 := Box.ex hB5 hE12
 refine sd rfl (yl_load1 ty9 rfl rfl ((q13.cell 0).trans rfl) (sd rfl (yl_fieldAddr fd59_0 rfl rfl (sd rfl (yl_load1 ty9 rfl rfl ((hB11.cell 0).trans rfl) (sd rfl (yl_sneq (a := p_a.Last) (b := p_b.Last) rfl rfl rfl (dn (bcase (p_a.Last == p_b.Last) (fun hb14 => ?_) (fun hb14 => ?_))))))))))
 ·refine CW.cond_f rfl (not_t hb14) (CW.skip (tn (CW.seq (CW.seq (CW.region (sd rfl (yl_fieldAddr fd59_1 rfl rfl (sd rfl (yl_load1 ty4 rfl rfl ((q13.cell 1).trans rfl) (sd rfl (yl_fieldAddr fd59_1 rfl rfl ?_)))))))))))
  refine sd rfl (yl_load1 ty4 rfl rfl ((hB11.cell 1).trans rfl) (sd rfl (yl_bneq un4 rfl rfl rfl (dn (bcase (p_a.Over == p_b.Over) (fun hb15 => ?_) (fun hb15 => ?_))))))
  ·refine CW.cond_f rfl (not_t hb15) (CW.skip (tn (CW.seq (CW.region (sd rfl (yl_assign rfl rfl (dn (CW.ret ?_))))))))
   refine rr rfl (.cons rfl .nil) ?_
   have hM16 : (l_eqFill p_a p_b) = (true) := by simp only [l_eqFill, hb14, hb15, cL]
   rw [hM16]
   exact ⟨rfl, (Ex.trans (Ex.trans (Ex.refl w) hE6) hE12)⟩
  ·refine CW.cond_t rfl (not_f hb15) (CW.seq (CW.region (sd rfl (yl_assign rfl rfl (dn (CW.ret (tr (rr rfl (.cons rfl .nil) ?_))))))))
   have hM19 : (l_eqFill p_a p_b) = (false) := by simp only [l_eqFill, hb14, hb15, cL]
   rw [hM19]
   exact ⟨rfl, (Ex.trans (Ex.trans (Ex.refl w) hE6) hE12)⟩
 ·refine CW.cond_t rfl (not_f hb14) (CW.seq (CW.region (sd rfl (yl_assign rfl rfl (dn (CW.ret (tr (rr rfl (.cons rfl .nil) ?_))))))))
  have hM22 : (l_eqFill p_a p_b) = (false) := by simp only [l_eqFill, hb14, cL]
  rw [hM22]
  exact ⟨rfl, (Ex.trans (Ex.trans (Ex.refl w) hE6) hE12)⟩
theorem c_l_eqWork {A1 : Option Addr} {c1 : Nat} {A2 : Option Addr} {c2 : Nat} {A3 : Option Addr} {c3 : Nat} {A4 : Option Addr} {c4 : Nat} {A5 : Option Addr} {c5 : Nat} {A6 : Option Addr} {c6 : Nat} {w : World} (p_a : DWork) (p_b : DWork) (h1 : RdS w (Iv 0 w.heap.size) R_Table 3 A1 p_a.Shift.Ways.length c1 p_a.Shift.Ways) (h2 : RdS w (Iv 0 w.heap.size) (RF e_Int) 1 A2 p_a.Shift.At.length c2 p_a.Shift.At) (h3 : RdS w (Iv 0 w.heap.size) (RF e_Write) 3 A3 p_a.Shift.Store.length c3 p_a.Shift.Store) (h4 : RdS w (Iv 0 w.heap.size) R_Table 3 A4 p_b.Shift.Ways.length c4 p_b.Shift.Ways) (h5 : RdS w (Iv 0 w.heap.size) (RF e_Int) 1 A5 p_b.Shift.At.length c5 p_b.Shift.At) (h6 : RdS w (Iv 0 w.heap.size) (RF e_Write) 3 A6 p_b.Shift.Store.length c6 p_b.Shift.Store) : Cal Tryz.prog 22 #[.agg #[.string (bs (p_a.Shift.Name)), .slice A1 p_a.Shift.Ways.length c1, .slice A2 p_a.Shift.At.length c2, .slice A3 p_a.Shift.Store.length c3, .string (bs (p_a.Up.Last)), .bool (p_a.Up.Over), .string (bs (p_a.Down.Last)), .bool (p_a.Down.Over)], .agg #[.string (bs (p_b.Shift.Name)), .slice A4 p_b.Shift.Ways.length c4, .slice A5 p_b.Shift.At.length c5, .slice A6 p_b.Shift.Store.length c6, .string (bs (p_b.Up.Last)), .bool (p_b.Up.Over), .string (bs (p_b.Down.Last)), .bool (p_b.Down.Over)]] w fun v w' => v = .bool ((l_eqWork p_a p_b)) ∧ Ex w w' := by
 refine Cal.of func22 rfl ntmps22 rfl (CW.seq (CW.region (sd rfl (yl_box rfl rfl rfl ?_))))
 intro b7 w8 hs9 hz10 hB11 hE12
 refine sd rfl (yl_box rfl rfl rfl ?_)
 intro b13 w14 hs15 hz16 hB17 hE18
 refine sd rfl (yl_assign rfl rfl (dn (CW.seq (CW.seq (CW.region (sd rfl (yl_fieldAddr fd61_0 rfl rfl ?_)))))))
 have q19 := Box.ex hB11 hE18
 refine sd rfl (yl_loadN ty58 rfl rfl (q19.cells (n := 4) rfl) rfl (sd rfl (yl_fieldAddr fd61_0 rfl rfl (sd rfl (yl_loadN ty58 rfl rfl (hB17.cells (n := 4) rfl) rfl (sd rfl (yl_call en56 rfl (oc rfl (oc rfl oz)) (Cal.mono (c_l_eqShift p_a.Shift p_b.Shift (RdS.up (RdS.ex good_Table (RdS.ex good_Table h1 hE12) hE18) good_Table) (RdS.up (RdS.ex good_Int (RdS.ex good_Int h2 hE12) hE18) good_Int) (RdS.up (RdS.ex good_Write (RdS.ex good_Write h3 hE12) hE18) good_Write) (RdS.up (RdS.ex good_Table (RdS.ex good_Table h4 hE12) hE18) good_Table) (RdS.up (RdS.ex good_Int (RdS.ex good_Int h5 hE12) hE18) good_Int) (RdS.up (RdS.ex good_Write (RdS.ex good_Write h6 hE12) hE18) good_Write)) ?_))))))))
 rintro v33 w32 ⟨rfl, hE34⟩
 refine sd rfl (yl_not rfl rfl (dn (bcase (l_eqShift p_a.Shift p_b.Shift) (fun hb35 => ?_) (fun hb35 => ?_))))
 ·refine CW.cond_f rfl (not_t hb35) (CW.skip (tn (CW.seq (CW.seq (CW.region (sd rfl (yl_fieldAddr fd61_1 rfl rfl ?_)))))))
  have q36 := Box.ex q19 hE34
  refine sd rfl (yl_loadN ty59 rfl rfl (q36.cells (n := 2) rfl) rfl (sd rfl (yl_fieldAddr fd61_1 rfl rfl ?_)))
  have q37 := Box.ex hB17 hE34
  refine sd rfl (yl_loadN ty59 rfl rfl (q37.cells (n := 2) rfl) rfl (sd rfl (yl_call en57 rfl (oc rfl (oc rfl oz)) (Cal.mono (c_l_eqFill p_a.Up p_b.Up) ?_))))
  rintro v39 w38 ⟨rfl, hE40⟩
  refine sd rfl (yl_not rfl rfl (dn (bcase (l_eqFill p_a.Up p_b.Up) (fun hb41 => ?_) (fun hb41 => ?_))))
  ·refine CW.cond_f rfl (not_t hb41) (CW.skip (tn (CW.seq (CW.seq (CW.region (sd rfl (yl_fieldAddr fd61_2 rfl rfl (sd rfl (yl_loadN ty59 rfl rfl ((Box.ex q36 hE40).cells (n := 2) rfl) rfl (sd rfl (yl_fieldAddr fd61_2 rfl rfl ?_)))))))))))
   refine sd rfl (yl_loadN ty59 rfl rfl ((Box.ex q37 hE40).cells (n := 2) rfl) rfl (sd rfl (yl_call en57 rfl (oc rfl (oc rfl oz)) (Cal.mono (c_l_eqFill p_a.Down p_b.Down) ?_))))
   rintro v45 w44 ⟨rfl, hE46⟩
   refine sd rfl (yl_not rfl rfl (dn (bcase (l_eqFill p_a.Down p_b.Down) (fun hb47 => ?_) (fun hb47 => ?_))))
   ·refine CW.cond_f rfl (not_t hb47) (CW.skip (tn (CW.seq (CW.region (sd rfl (yl_assign rfl rfl (dn (CW.ret ?_))))))))
    refine rr rfl (.cons rfl .nil) ?_
    have hM48 : (l_eqWork p_a p_b) = (true) := by simp only [l_eqWork, hb35, hb41, hb47, cL]
    rw [hM48]
    exact ⟨rfl, (Ex.trans (Ex.trans (Ex.trans (Ex.trans (Ex.trans (Ex.refl w) hE12) hE18) hE34) hE40) hE46)⟩
   ·refine CW.cond_t rfl (not_f hb47) (CW.seq (CW.region (sd rfl (yl_assign rfl rfl (dn (CW.ret (tr (rr rfl (.cons rfl .nil) ?_))))))))
    have hM54 : (l_eqWork p_a p_b) = (false) := by simp only [l_eqWork, hb35, hb41, hb47, cL]
    rw [hM54]
    exact ⟨rfl, (Ex.trans (Ex.trans (Ex.trans (Ex.trans (Ex.trans (Ex.refl w) hE12) hE18) hE34) hE40) hE46)⟩
  ·refine CW.cond_t rfl (not_f hb41) (CW.seq (CW.region (sd rfl (yl_assign rfl rfl (dn (CW.ret (tr (rr rfl (.cons rfl .nil) ?_))))))))
   have hM60 : (l_eqWork p_a p_b) = (false) := by simp only [l_eqWork, hb35, hb41, cL]
   rw [hM60]
   exact ⟨rfl, (Ex.trans (Ex.trans (Ex.trans (Ex.trans (Ex.refl w) hE12) hE18) hE34) hE40)⟩
 ·refine CW.cond_t rfl (not_f hb35) (CW.seq (CW.region (sd rfl (yl_assign rfl rfl (dn (CW.ret (tr (rr rfl (.cons rfl .nil) ?_))))))))
  have hM65 : (l_eqWork p_a p_b) = (false) := by simp only [l_eqWork, hb35, cL]
  rw [hM65]
  exact ⟨rfl, (Ex.trans (Ex.trans (Ex.trans (Ex.refl w) hE12) hE18) hE34)⟩
theorem c_l_FnExactIsFilled {A1 : Option Addr} {c1 : Nat} {A2 : Option Addr} {c2 : Nat} {A3 : Option Addr} {c3 : Nat} {w : World} (p_aW : DWork) (h1 : RdS w (Iv 0 w.heap.size) R_Table 3 A1 p_aW.Shift.Ways.length c1 p_aW.Shift.Ways) (h2 : RdS w (Iv 0 w.heap.size) (RF e_Int) 1 A2 p_aW.Shift.At.length c2 p_aW.Shift.At) (h3 : RdS w (Iv 0 w.heap.size) (RF e_Write) 3 A3 p_aW.Shift.Store.length c3 p_aW.Shift.Store) (pre0 : wf_Work p_aW) : Cal Tryz.prog 4 #[.agg #[.string (bs (p_aW.Shift.Name)), .slice A1 p_aW.Shift.Ways.length c1, .slice A2 p_aW.Shift.At.length c2, .slice A3 p_aW.Shift.Store.length c3, .string (bs (p_aW.Up.Last)), .bool (p_aW.Up.Over), .string (bs (p_aW.Down.Last)), .bool (p_aW.Down.Over)]] w fun v w' => v = .bool ((l_FnExactIsFilled p_aW)) ∧ Ex w w' := by
 refine Cal.of func4 rfl ntmps4 rfl (CW.seq (CW.region (sd rfl (yl_box rfl rfl rfl ?_))))
 intro b4 w5 hs6 hz7 hB8 hE9
 refine sd rfl (yl_assign rfl rfl (dn (CW.seq (CW.region (sd rfl (yl_assign rfl rfl (dn (CW.seq ?_))))))))
 refine CW.region (sd rfl (yl_loadN ty52 rfl rfl (hB8.cells (n := 8) rfl) rfl (sd rfl (yl_move rfl rfl ?_))))
 have q10 := RdS.ex good_Table h1 hE9
 have q11 := RdS.ex good_Int h2 hE9
 have q12 := RdS.ex good_Write h3 hE9
 refine sd rfl (yl_call en18 rfl (oc rfl (oc rfl oz)) (Cal.mono (c_l_szWork p_aW 1048576 (RdS.up q10 good_Table) (RdS.up q11 good_Int) (RdS.up q12 good_Write)) ?_))
 rintro v14 w13 ⟨rfl, hE15⟩
 have hE15z := Ex.size hE15
 refine sd rfl (yl_assign rfl rfl (dn (CW.seq (CW.seq (CW.region (sd rfl (yl_move rfl rfl (sd rfl (yl_lss rfl rfl rfl (SeqR.done ?_))))))))))
 refine tn (bcase (decide ((l_szWork p_aW 1048576) < 0)) (fun hb16 => ?_) (fun hb16 => ?_))
 ·have hb16p := dec_t hb16
  refine CW.cond_t rfl hb16 (CW.seq (CW.region (sd rfl (yl_assign rfl rfl (dn (CW.ret (tr (rr rfl (.cons rfl .nil) ?_))))))))
  have hM17 : (l_FnExactIsFilled p_aW) = (true) := by simp only [l_FnExactIsFilled, hb16, cL]
  rw [hM17]
  exact ⟨rfl, (Ex.trans (Ex.trans (Ex.refl w) hE9) hE15)⟩
 ·have hb16p := dec_f hb16
  refine CW.cond_f rfl hb16 (CW.skip (tn (CW.seq (CW.region ?_))))
  have q20 := Box.ex hB8 hE15
  refine sd rfl (yl_loadN ty52 rfl rfl (q20.cells (n := 8) rfl) rfl ?_)
  have q21 := RdS.ex good_Table q10 hE15
  have q22 := RdS.ex good_Int q11 hE15
  have q23 := RdS.ex good_Write q12 hE15
  refine sd rfl (yl_call en20 rfl (oc rfl oz) (Cal.mono (c_l_toWork p_aW (RdS.up q21 good_Table) (RdS.up q22 good_Int) (RdS.up q23 good_Write) ((szok_Work pre0 (by decide) (dec_f hb16)).1)) ?_))
  rintro v28 w24 ⟨A25, c25, lo25, hi25, A26, c26, lo26, hi26, A27, c27, lo27, hi27, rfl, h25, h26, h27, hrn30, hrn31, hrn32, hrn33, hrn34, hrn35, hE29⟩
  have hE29z := Ex.size hE29
  refine sd rfl (yl_call en19 rfl (oc rfl oz) (Cal.mono (c_s_IsFilled p_aW (RdS.up (OwnL.rd good_Table h25) good_Table) (RdS.up (OwnL.rd good_Int h26) good_Int) (RdS.up (OwnL.rd good_Write h27) good_Write) ((szok_Work pre0 (by decide) (dec_f hb16)).1)) ?_))
  rintro v40 w39 ⟨rfl, hE41⟩
  have hE41z := Ex.size hE41
  refine sd rfl (yl_move rfl rfl (sd rfl (yl_extract rfl rfl rfl (sd rfl (yl_extract rfl rfl rfl (sd rfl (yl_assign rfl rfl (sd rfl (yl_assign rfl rfl (dn (CW.seq (CW.region ?_))))))))))))
  have q43 := Box.ex (Box.ex q20 hE29) hE41
  refine sd rfl (yl_loadN ty52 rfl rfl (q43.cells (n := 8) rfl) rfl ?_)
  have q45 := RdS.ex good_Table (RdS.ex good_Table q21 hE29) hE41
  have q47 := RdS.ex good_Int (RdS.ex good_Int q22 hE29) hE41
  have q49 := RdS.ex good_Write (RdS.ex good_Write q23 hE29) hE41
  refine sd rfl (yl_call en20 rfl (oc rfl oz) (Cal.mono (c_l_toWork p_aW (RdS.up q45 good_Table) (RdS.up q47 good_Int) (RdS.up q49 good_Write) ((szok_Work pre0 (by decide) (dec_f hb16)).1)) ?_))
  rintro v54 w50 ⟨A51, c51, lo51, hi51, A52, c52, lo52, hi52, A53, c53, lo53, hi53, rfl, h51, h52, h53, hrn56, hrn57, hrn58, hrn59, hrn60, hrn61, hE55⟩
  have hE55z := Ex.size hE55
  refine sd rfl (yl_alloc ty61 (cs := [.string (bs (([] : Str))), .slice none 0 0, .slice none 0 0, .slice none 0 0, .string (bs (([] : Str))), .bool (false), .string (bs (([] : Str))), .bool (false)]) rfl rfl ?_)
  intro b62 w63 hs64 hz65 hB66 hE67
  refine SeqR.u rfl rfl (yl_store (vs := [.string (bs (p_aW.Shift.Name)), .slice A51 p_aW.Shift.Ways.length c51, .slice A52 p_aW.Shift.At.length c52, .slice A53 p_aW.Shift.Store.length c53, .string (bs (p_aW.Up.Last)), .bool (p_aW.Up.Over), .string (bs (p_aW.Down.Last)), .bool (p_aW.Down.Over)]) ty61 rfl rfl rfl rfl rfl rfl hB66 (Nat.le_of_ble_eq_true rfl) ?_)
  intro w68 hB69 hO70
  have hB69 : Box w68 b62 61 [.string (bs (p_aW.Shift.Name)), .slice A51 p_aW.Shift.Ways.length c51, .slice A52 p_aW.Shift.At.length c52, .slice A53 p_aW.Shift.Store.length c53, .string (bs (p_aW.Up.Last)), .bool (p_aW.Up.Over), .string (bs (p_aW.Down.Last)), .bool (p_aW.Down.Over)] := hB69
  have hO70z := hO70.size
  refine dn (CW.seq (CW.region (sd rfl (yl_loadN ty61 rfl rfl (hB69.cells (n := 8) rfl) rfl ?_))))
  have q73 := OwnL.only good_Table (OwnL.ex good_Table h51 hE67) hO70 (by omega)
  have q76 := OwnL.only good_Int (OwnL.ex good_Int h52 hE67) hO70 (by omega)
  have q79 := OwnL.only good_Write (OwnL.ex good_Write h53 hE67) hO70 (by omega)
  refine sd rfl (yl_call en21 rfl (oc rfl oz) (Cal.mono (c_i_IsFilled p_aW (RdS.up (OwnL.rd good_Table q73) good_Table) (RdS.up (OwnL.rd good_Int q76) good_Int) (RdS.up (OwnL.rd good_Write q79) good_Write) ((szok_Work pre0 (by decide) (dec_f hb16)).1)) ?_))
  rintro v81 w80 ⟨rfl, hE82⟩
  have hE82z := Ex.size hE82
  refine sd rfl (yl_move rfl rfl (sd rfl (yl_extract rfl rfl rfl (sd rfl (yl_extract rfl rfl rfl (sd rfl (yl_assign rfl rfl (sd rfl (yl_assign rfl rfl (dn (CW.seq (CW.seq ?_))))))))))))
  refine CW.region (sd rfl (yl_move rfl rfl (sd rfl (yl_move rfl rfl (sd rfl (yl_bneq un4 rfl rfl rfl (sd rfl (yl_move rfl rfl (bcase (((i_IsFilled p_aW).1) == ((s_IsFilled p_aW).1)) (fun hb83 => ?_) (fun hb83 => ?_))))))))))
  ·refine sy rfl rfl (not_t hb83) (yl_move rfl rfl (sy rfl rfl (not_t hb83) (yl_move rfl rfl (sy rfl rfl (not_t hb83) (yl_bneq un4 rfl rfl rfl (sd rfl (yl_pick_f rfl rfl (not_t hb83) rfl (dn (bcase (((i_IsFilled p_aW).2) == ((s_IsFilled p_aW).2)) (fun hb84 => ?_) (fun hb84 => ?_))))))))))
   ·refine CW.cond_f rfl (not_t hb84) (CW.skip (tn (CW.seq (CW.seq (CW.drawsI 5 (vgetI [DetI (.agg #[.string (bs (p_aW.Shift.Name)), .slice A51 p_aW.Shift.Ways.length c51, .slice A52 p_aW.Shift.At.length c52, .slice A53 p_aW.Shift.Store.length c53, .string (bs (p_aW.Up.Last)), .bool (p_aW.Up.Over), .string (bs (p_aW.Down.Last)), .bool (p_aW.Down.Over)]), DetI (.agg #[.string (bs (p_aW.Shift.Name)), .slice A1 p_aW.Shift.Ways.length c1, .slice A2 p_aW.Shift.At.length c2, .slice A3 p_aW.Shift.Store.length c3, .string (bs (p_aW.Up.Last)), .bool (p_aW.Up.Over), .string (bs (p_aW.Down.Last)), .bool (p_aW.Down.Over)]), fun lo hi v wq => ∃ A103 c103 lo103 hi103 A104 c104 lo104 hi104 A105 c105 lo105 hi105, v = .agg #[.string (bs (p_aW.Shift.Name)), .slice A103 p_aW.Shift.Ways.length c103, .slice A104 p_aW.Shift.At.length c104, .slice A105 p_aW.Shift.Store.length c105, .string (bs (p_aW.Up.Last)), .bool (p_aW.Up.Over), .string (bs (p_aW.Down.Last)), .bool (p_aW.Down.Over)] ∧ OwnL wq lo103 hi103 34 3 R_Table A103 p_aW.Shift.Ways.length c103 p_aW.Shift.Ways ∧ OwnL wq lo104 hi104 3 1 (RF e_Int) A104 p_aW.Shift.At.length c104 p_aW.Shift.At ∧ OwnL wq lo105 hi105 75 3 (RF e_Write) A105 p_aW.Shift.Store.length c105 p_aW.Shift.Store ∧ (lo ≤ lo103 ∧ lo103 ≤ hi103 ∧ hi103 ≤ hi) ∧ (lo ≤ lo104 ∧ lo104 ≤ hi104 ∧ hi104 ≤ hi) ∧ (lo ≤ lo105 ∧ lo105 ≤ hi105 ∧ hi105 ≤ hi) ∧ (hi103 ≤ lo104 ∨ hi104 ≤ lo103) ∧ (hi103 ≤ lo105 ∨ hi105 ≤ lo103) ∧ (hi104 ≤ lo105 ∨ hi105 ≤ lo104), DetI (.bool ((l_eqWork p_aW p_aW))), DetI (.bool (!(l_eqWork p_aW p_aW)))]) Tryz.follows rfl rfl rfl rfl rfl rfl (vgetI_stable ⟨StableI.det _, StableI.det _, (fun _ _ _ _ _ ⟨A103, c103, lo103, hi103, A104, c104, lo104, hi104, A105, c105, lo105, hi105, hv, h103, h104, h105, hr0, hr1, hr2, hr3, hr4, hr5⟩ e => ⟨A103, c103, lo103, hi103, A104, c104, lo104, hi104, A105, c105, lo105, hi105, hv, OwnL.ex good_Table h103 e, OwnL.ex good_Int h104 e, OwnL.ex good_Write h105 e, hr0, hr1, hr2, hr3, hr4, hr5⟩), StableI.det _, StableI.det _, trivial⟩) ⟨?_, ?_, ?_, ?_, ?_, trivial⟩ ?_)))))
    ·exact oI rfl fun h => yl_loadN ty61 rfl (h.old 6 _ rfl rfl) ((Box.ex (Box.ex hB69 hE82) h.ex).cells (n := 8) rfl) rfl kI
    ·intro L119 w120 hi121
     have hE122 := hi121.ex
     have hE122z := Ex.size hE122
     exact os rfl ((yl_loadN ty52 rfl (hi121.old 1 _ rfl rfl) ((Box.ex (Box.ex (Box.only (Box.ex (Box.ex q43 hE55) hE67) hO70 (by omega)) hE82) hE122).cells (n := 8) rfl) rfl kI))
    ·intro L125 w126 hi127
     have hE128 := hi127.ex
     have hE128z := Ex.size hE128
     refine OpR.op' rfl (yl_call en20 rfl (oc (hi127.dt 1 36 rfl rfl rfl) oz) (Cal.mono (c_l_toWork p_aW (RdS.up (RdS.ex good_Table (RdS.ex good_Table (RdS.only good_Table (RdS.ex good_Table (RdS.ex good_Table q45 hE55) hE67) hO70 (by simp only [Iv]; omega)) hE82) hE128) good_Table) (RdS.up (RdS.ex good_Int (RdS.ex good_Int (RdS.only good_Int (RdS.ex good_Int (RdS.ex good_Int q47 hE55) hE67) hO70 (by simp only [Iv]; omega)) hE82) hE128) good_Int) (RdS.up (RdS.ex good_Write (RdS.ex good_Write (RdS.only good_Write (RdS.ex good_Write (RdS.ex good_Write q49 hE55) hE67) hO70 (by simp only [Iv]; omega)) hE82) hE128) good_Write) ((szok_Work pre0 (by decide) (dec_f hb16)).1)) ?_))
     rintro v137 w133 ⟨A134, c134, lo134, hi134, A135, c135, lo135, hi135, A136, c136, lo136, hi136, rfl, h134, h135, h136, hrn139, hrn140, hrn141, hrn142, hrn143, hrn144, hE138⟩
     exact ⟨⟨A134, c134, lo134, hi134, A135, c135, lo135, hi135, A136, c136, lo136, hi136, rfl, h134, h135, h136, hrn139, hrn140, hrn141, hrn142, hrn143, hrn144⟩, hE138⟩
    ·intro L145 w146 hi147
     have hE148 := hi147.ex
     obtain ⟨lo151, hh152, _, hx150, hr153, hr154, hr155, A103_156, c103_157, lo103_158, hi103_159, A104_160, c104_161, lo104_162, hi104_163, A105_164, c105_165, lo105_166, hi105_167, rfl, h168, h169, h170, hrn171, hrn172, hrn173, hrn174, hrn175, hrn176⟩ := hi147.dep 2 37 rfl rfl
     exact OpR.op' rfl (yl_call en22 rfl (oc (hi147.dt 0 35 rfl rfl rfl) (oc hx150 oz)) (Cal.mono (c_l_eqWork p_aW p_aW (RdS.up (OwnL.rd good_Table (OwnL.ex good_Table (OwnL.ex good_Table q73 hE82) hE148)) good_Table) (RdS.up (OwnL.rd good_Int (OwnL.ex good_Int (OwnL.ex good_Int q76 hE82) hE148)) good_Int) (RdS.up (OwnL.rd good_Write (OwnL.ex good_Write (OwnL.ex good_Write q79 hE82) hE148)) good_Write) (RdS.up (OwnL.rd good_Table h168) good_Table) (RdS.up (OwnL.rd good_Int h169) good_Int) (RdS.up (OwnL.rd good_Write h170) good_Write)) fun _ _ h => h))
    ·exact oI rfl fun h => yl_not rfl (h.dt 3 38 rfl rfl rfl) kI
    ·intro fl197 fh198 L194 w195 hp196
     have hE199 := hp196.ex
     have hE199z := Ex.size hE199
     have hr201 := hp196.rng 2 rfl
     obtain ⟨_, hx200, A103_202, c103_203, lo103_204, hi103_205, A104_206, c104_207, lo104_208, hi104_209, A105_210, c105_211, lo105_212, hi105_213, rfl, h214, h215, h216, hrn217, hrn218, hrn219, hrn220, hrn221, hrn222⟩ := hp196.new 2 37 rfl rfl
     refine dn (CW.sub (Sub.cons (d := 39) (hp196.nt 4 39 rfl rfl rfl) (Sub.nil _)) (bcase (l_eqWork p_aW p_aW) (fun hb224 => ?_) (fun hb224 => ?_)))
     ·refine CW.cond_f rfl (not_t hb224) (CW.skip (tn (CW.seq (CW.region (sd rfl (yl_assign rfl rfl (dn (CW.ret ?_))))))))
      refine rr rfl (.cons rfl .nil) ?_
      have hM225 : (l_FnExactIsFilled p_aW) = (true) := by simp only [l_FnExactIsFilled, hb16, hb83, hb84, hb224, cL]
      rw [hM225]
      exact ⟨rfl, (Ex.trans (Ex.trans (Below.only (Ex.trans (Ex.trans (Ex.trans (Ex.trans (Ex.trans (Ex.trans (Ex.refl w) hE9) hE15) hE29) hE41) hE55) hE67) hO70 (by omega)) hE82) hE199)⟩
     ·refine CW.cond_t rfl (not_f hb224) (CW.seq (CW.region (sd rfl (yl_assign rfl rfl (dn (CW.ret (tr (rr rfl (.cons rfl .nil) ?_))))))))
      have hM235 : (l_FnExactIsFilled p_aW) = (false) := by simp only [l_FnExactIsFilled, hb16, hb83, hb84, hb224, cL]
      rw [hM235]
      exact ⟨rfl, (Ex.trans (Ex.trans (Below.only (Ex.trans (Ex.trans (Ex.trans (Ex.trans (Ex.trans (Ex.trans (Ex.refl w) hE9) hE15) hE29) hE41) hE55) hE67) hO70 (by omega)) hE82) hE199)⟩
   ·refine CW.cond_t rfl (not_f hb84) (CW.seq (CW.region (sd rfl (yl_assign rfl rfl (dn (CW.ret (tr (rr rfl (.cons rfl .nil) ?_))))))))
    have hM245 : (l_FnExactIsFilled p_aW) = (false) := by simp only [l_FnExactIsFilled, hb16, hb83, hb84, cL]
    rw [hM245]
    exact ⟨rfl, (Ex.trans (Below.only (Ex.trans (Ex.trans (Ex.trans (Ex.trans (Ex.trans (Ex.trans (Ex.refl w) hE9) hE15) hE29) hE41) hE55) hE67) hO70 (by omega)) hE82)⟩
  ·refine sz rfl rfl (not_f hb83) (sz rfl rfl (not_f hb83) (sz rfl rfl (not_f hb83) (sd rfl (yl_pick_t rfl rfl (not_f hb83) rfl (dn (CW.cond_t rfl rfl (CW.seq (CW.region ?_))))))))
   refine sd rfl (yl_assign rfl rfl (dn (CW.ret (tr (rr rfl (.cons rfl .nil) ?_)))))
   have hM254 : (l_FnExactIsFilled p_aW) = (false) := by simp only [l_FnExactIsFilled, hb16, hb83, cL]
   rw [hM254]
   exact ⟨rfl, (Ex.trans (Below.only (Ex.trans (Ex.trans (Ex.trans (Ex.trans (Ex.trans (Ex.trans (Ex.refl w) hE9) hE15) hE29) hE41) hE55) hE67) hO70 (by omega)) hE82)⟩
end Go.Proofs.YtdbobbmagmcpnaaGreatDoor
