/- Do Act: what each call returns, part 4. -/
import Derived.Test.YtoimdjojffkefaaGreatDoorDoActC3
set_option maxRecDepth 100000
set_option maxHeartbeats 2000000
open Go.Proofs.Tryz Go.Proofs.YtoimdjojffkefaaGreatDoor.Tryz
set_option linter.unusedVariables false
set_option linter.unusedSimpArgs false
namespace Go.Proofs.YtoimdjojffkefaaGreatDoor
open Go.RowKit Go.X
@[reducible] def Y0_38 (p_0 : DTable) (p_1 : DRowAct) (k1009 : Nat) := ([(⟨2, (i_Table_idxKey p_0 ((p_0.Idxs.getD k1009 d_Idx).Name) p_1.New), ([] : Str), 0⟩ : DOp)] : List DOp)
@[reducible] def Y1_38 (p_0 : DTable) (p_1 : DRowAct) := ([] : List DOp) ++ ([(⟨7, (i_Table_rowWrite p_0 p_1.Old).Key, (i_Table_rowWrite p_0 p_1.Old).Val, 0⟩ : DOp)] : List DOp)
@[reducible] def Y2_38 (p_0 : DTable) (p_1 : DRowAct) := ([(⟨2, (i_Table_rowWrite p_0 p_1.New).Key, (i_Table_rowWrite p_0 p_1.New).Val, 0⟩ : DOp)] : List DOp)
@[reducible] def Y3_38 (p_0 : DTable) (p_1 : DRowAct) (k1009 : Nat) := ([(⟨3, (i_Table_idxKey p_0 ((p_0.Idxs.getD k1009 d_Idx).Name) p_1.Old), ([] : Str), 0⟩ : DOp)] : List DOp)
@[reducible] def Y4_38 (p_0 : DTable) (p_1 : DRowAct) := ([(⟨6, (i_Table_rowWrite p_0 p_1.New).Key, ([] : Str), 0⟩ : DOp)] : List DOp)
@[reducible] def Y5_38 (p_0 : DTable) (p_1 : DRowAct) (k187 : Nat) := ([(⟨2, (i_Table_idxKey p_0 ((p_0.Idxs.getD k187 d_Idx).Name) p_1.New), ([] : Str), 0⟩ : DOp)] : List DOp)
@[reducible] def Y6_38 (p_0 : DTable) (p_1 : DRowAct) (k620 : Nat) := ([(⟨3, (i_Table_idxKey p_0 ((p_0.Idxs.getD k620 d_Idx).Name) p_1.Old), ([] : Str), 0⟩ : DOp)] : List DOp)
@[reducible] def Y7_38 (p_0 : DTable) (p_1 : DRowAct) := ([(⟨3, (i_Table_rowWrite p_0 p_1.Old).Key, ([] : Str), 0⟩ : DOp)] : List DOp)
theorem c_i_Table_opsFor {A1 : Option Addr} {c1 : Nat} {A2 : Option Addr} {c2 : Nat} {A4 : Option Addr} {c4 : Nat} {A5 : Option Addr} {c5 : Nat} {w : World} (p_0 : DTable) (p_1 : DRowAct) (h1 : RdS w (Iv 0 w.heap.size) (RF e_Str) 1 A1 p_0.Cols.length c1 p_0.Cols) (h2 : RdS w (Iv 0 w.heap.size) (RF e_Idx) 3 A2 p_0.Idxs.length c2 p_0.Idxs) (h4 : RdS w (Iv 0 w.heap.size) (RF e_Str) 1 A4 p_1.Old.Vals.length c4 p_1.Old.Vals) (h5 : RdS w (Iv 0 w.heap.size) (RF e_Str) 1 A5 p_1.New.Vals.length c5 p_1.New.Vals) (o3 : ok_Table p_0) (o6 : ok_RowAct p_1) (pre0 : s_GoodTable p_0 = true) (pre1 : actOf p_0 p_1) (pre2 : (1 ≤ p_1.Kind ∧ p_1.Kind ≤ 3)) : Cal Tryz.prog 49 #[.agg #[.string (bs (p_0.Name)), .slice A1 p_0.Cols.length c1, .slice A2 p_0.Idxs.length c2], .agg #[.int .i64 (p_1.Kind), .slice A4 p_1.Old.Vals.length c4, .slice A5 p_1.New.Vals.length c5]] w fun v w' => ∃ A_1 c_1 lo_1 hi_1, v = .slice A_1 ((i_Table_opsFor p_0 p_1).length) c_1 ∧ OwnL w' lo_1 hi_1 122 4 (RF e_Op) A_1 ((i_Table_opsFor p_0 p_1).length) c_1 (i_Table_opsFor p_0 p_1) ∧ (w.heap.size ≤ lo_1 ∧ lo_1 ≤ hi_1 ∧ hi_1 ≤ w'.heap.size) ∧ Ex w w' := by
 have hol7 : p_0.Name.length ≤ 1073741824 := o3.1
 have hol8 := o3.2.1.1
 have hol9 := o3.2.2.1
 have hol10 := o6.1.1
 have hol11 := o6.2.1
 have hof := actOf_len pre0 pre1
 refine Cal.of func49 rfl ntmps49 rfl (cR (sd rfl (yl_box rfl rfl rfl ?_)))
 intro b12 w13 hs14 hz15 hB16 hE17
 refine sd rfl (yl_box rfl rfl rfl ?_)
 intro b18 w19 hs20 hz21 hB22 hE23
 refine sA rfl (dn (cR (sd rfl (yl_buildSlice (cs := []) un77 ty122 (by decide) rfl opvs_nil (by kernel_rfl) ?_))))
 intro b24 w25 hs26 hz27 hB28 hE29
 have hO30 : OwnL w25 b24 (b24 + 1) 122 4 (RF e_Op) (some ⟨b24, 0, none⟩) 0 0 ([] : List DOp) := oB hB28
 refine sd rfl (yB ty77 (cs := [.slice none 0 0]) rfl rfl ?_)
 intro b31 w32 hs33 hz34 hB35 hE36
 refine SeqR.u rfl rfl (yl_storeA (vs := [.slice (some ⟨b24, 0, none⟩) 0 0]) ty77 rfl rfl rfl rfl rfl rfl hB35 rfl ?_)
 intro w37 hB38 hO39
 have hO39z := hO39.size
 refine dn (cR (sd rfl (yl_makeFunc rfl (oc rfl oz) (sA rfl (dn (CW.seq ?_))))))
 refine CW.region (sd rfl (yl_build (cs := [.string (bs (([] : Str))), .string (bs (([] : Str))), .bool (false)]) rfl opvs_nil (by kernel_rfl) (sd rfl (yl_build (cs := [.string (bs (([] : Str))), .string (bs (([] : Str))), .bool (false)]) rfl opvs_nil (by kernel_rfl) (sd rfl (yB ty80 (cs := [.string (bs (([] : Str))), .string (bs (([] : Str))), .bool (false)]) rfl rfl ?_))))))
 intro b40 w41 hs42 hz43 hB44 hE45
 refine sd rfl (yB ty80 (cs := [.string (bs (([] : Str))), .string (bs (([] : Str))), .bool (false)]) rfl rfl ?_)
 intro b46 w47 hs48 hz49 hB50 hE51
 refine SeqR.u rfl rfl (yl_storeA (vs := [.string (bs (([] : Str))), .string (bs (([] : Str))), .bool (false)]) ty80 rfl rfl rfl rfl rfl rfl (Box.ex hB44 hE51) rfl ?_)
 intro w53 hB54 hO55
 have hO55z := hO55.size
 have y15 := RdS.only gS (RdS.ex gS (RdS.ex gS (RdS.only gS (RdS.ex gS (RdS.ex gS (RdS.ex gS (RdS.ex gS h4 hE17) hE23) hE29) hE36) hO39 iV) hE45) hE51) hO55 iV
 have y14 := RdS.only gI (RdS.ex gI (RdS.ex gI (RdS.only gI (RdS.ex gI (RdS.ex gI (RdS.ex gI (RdS.ex gI h2 hE17) hE23) hE29) hE36) hO39 iV) hE45) hE51) hO55 iV
 have y13 := RdS.only gS (RdS.ex gS (RdS.ex gS (RdS.only gS (RdS.ex gS (RdS.ex gS (RdS.ex gS (RdS.ex gS h1 hE17) hE23) hE29) hE36) hO39 iV) hE45) hE51) hO55 iV
 have y4 := RdS.only gS (RdS.ex gS (RdS.ex gS (RdS.only gS (RdS.ex gS (RdS.ex gS (RdS.ex gS (RdS.ex gS h5 hE17) hE23) hE29) hE36) hO39 iV) hE45) hE51) hO55 iV
 refine SeqR.u rfl rfl (yl_storeA (vs := [.string (bs (([] : Str))), .string (bs (([] : Str))), .bool (false)]) ty80 rfl rfl rfl rfl rfl rfl (Box.only hB50 hO55 oM) rfl ?_)
 intro w57 hB58 hO59
 have hO59z := hO59.size
 have y5 := Below.only (Below.only (Ex.trans (Ex.trans (Below.only (Ex.trans (Ex.trans (Ex.trans (Ex.trans (Ex.refl w) hE17) hE23) hE29) hE36) hO39 oM) hE45) hE51) hO55 oM) hO59 oM
 refine dn (CW.seq (cR (sd rfl (yl_fieldAddr fd44_0 rfl rfl ?_))))
 have q66 := Box.only (Box.only (Box.ex (Box.ex (Box.only (Box.ex (Box.ex hB22 hE29) hE36) hO39 oM) hE45) hE51) hO55 oM) hO59 oM
 refine sd rfl (yl_load1 ty3 rfl rfl ((q66.cell 0).trans rfl) (sd rfl (yl_neq rfl rfl rfl (dn (bcD (q := p_1.Kind = 1) (fun hb67 hb67p => ?_) (fun hb67 hb67p => ?_))))))
 ·refine CW.cond_f rfl (not_t hb67) (CW.skip (tn (CW.seq (cR (sd rfl (yl_fieldAddr fd44_0 rfl rfl (sd rfl (yl_load1 ty3 rfl rfl ((q66.cell 0).trans rfl) (sd rfl (yl_neq rfl rfl rfl ?_))))))))))
  refine dn (CW.cond_t rfl (not_f (decide_eq_false oM)) (CW.region ?_))
  have q75 := Box.only (Box.only (Box.ex (Box.ex (Box.only (Box.ex (Box.ex (Box.ex hB16 hE23) hE29) hE36) hO39 oM) hE45) hE51) hO55 oM) hO59 oM
  refine sd rfl (yl_loadN ty39 rfl rfl (q75.cells (n := 3) rfl) rfl (sd rfl (yl_fieldAddr fd44_2 rfl rfl (sd rfl (yl_loadN ty42 rfl rfl (q66.cells (n := 1) rfl) rfl ?_)))))
  have q84 := RdS.only gS y13 hO59 iV
  have q93 := RdS.only gI y14 hO59 iV
  have q102 := RdS.only gS y4 hO59 iV
  refine sd rfl (yC en84 rfl (oc rfl (oc rfl oz)) (Cal.mono (c_i_Table_rowWrite p_0 p_1.New (RdS.up q84 gS) (RdS.up q93 gI) (RdS.up q102 gS) o3 o6.2 Bo Bo (pre1.1 oM).2) ?_))
  rintro v104 w103 ⟨rfl, hE105⟩
  have hE105z := Ex.size hE105
  refine SeqR.u rfl rfl (yl_storeA (vs := [.string (bs ((i_Table_rowWrite p_0 p_1.New).Key)), .string (bs ((i_Table_rowWrite p_0 p_1.New).Val)), .bool ((i_Table_rowWrite p_0 p_1.New).Gone)]) ty80 rfl rfl rfl rfl rfl rfl (Box.ex hB58 hE105) rfl ?_)
  intro w107 hB108 hO109
  have hO109z := hO109.size
  refine dn (CW.seq (cR (sd rfl (yl_fieldAddr fd44_0 rfl rfl ?_))))
  have q111 := Box.only (Box.ex q66 hE105) hO109 oM
  refine sd rfl (yl_load1 ty3 rfl rfl ((q111.cell 0).trans rfl) (dn (CW.block (cR (sd rfl (yl_eql rfl rfl rfl (sA rfl (SeqR.done ?_))))))))
  refine tn (CW.cond_t rfl hb67 (cR (sM rfl (sd rfl (yl_fieldAddr fd80_0 rfl rfl (sd rfl (yl_load1 ty9 rfl rfl ((hB108.cell 0).trans rfl) (sd rfl (yl_build (cs := [.string (bs ((i_Table_rowWrite p_0 p_1.New).Key)), .string (bs (([] : Str))), .bool (false)]) rfl (oc rfl oz) (by kernel_rfl) (sd rfl (yl_callv (caps := [.pointer (some ⟨b31, 0, none⟩)]) en83 rfl rfl (oc rfl (oc rfl oz)) (Cal.of func83 rfl ntmps83 rfl ?_))))))))))))
  refine cR (sd rfl (yl_box rfl rfl rfl ?_))
  intro b112 w113 hs114 hz115 hB116 hE117
  refine dn (CW.region ?_)
  have q124 := Box.ex (Box.only (Box.ex (Box.only (Box.only (Box.ex (Box.ex hB38 hE45) hE51) hO55 oM) hO59 oM) hE105) hO109 oM) hE117
  refine sd rfl (yl_load1 ty77 rfl rfl ((q124.cell 0).trans rfl) (sM rfl (sd rfl (yl_fieldAddr fd80_0 rfl rfl (sd rfl (yl_load1 ty9 rfl rfl ((hB116.cell 0).trans rfl) (sd rfl (yl_fieldAddr fd80_1 rfl rfl (sd rfl (yl_load1 ty9 rfl rfl ((hB116.cell 1).trans rfl) (sd rfl (yl_build (cs := [.int .i64 (6), .string (bs ((i_Table_rowWrite p_0 p_1.New).Key)), .string (bs (([] : Str))), .int .i64 (0)]) rfl (oc rfl (oc rfl (oc rfl oz))) (by kernel_rfl) (sd rfl (yl_buildSlice (cs := [.int .i64 (6), .string (bs ((i_Table_rowWrite p_0 p_1.New).Key)), .string (bs (([] : Str))), .int .i64 (0)]) un77 ty122 (by decide) rfl (oc rfl oz) (by kernel_rfl) ?_))))))))))))))
  intro b125 w126 hs127 hz128 hB129 hE130
  have hO131 : OwnL w126 b125 (b125 + 1) 122 4 (RF e_Op) (some ⟨b125, 0, none⟩) 1 1 (Y4_38 p_0 p_1) := OwnL.of_box (S := fun _ => False) hB129 (Nat.le_refl _) (Nat.lt_succ_self _) (EncL.cons (c := [.int .i64 (6), .string (bs ((i_Table_rowWrite p_0 p_1.New).Key)), .string (bs (([] : Str))), .int .i64 (0)]) rfl rfl EncL.nil) (nb rfl) (fun h => h) (fun _ h => False.elim h)
  refine sd rfl (yl_appendL (S := (fun _ => False)) (lo := w126.heap.size) (hi := w126.heap.size) (xs := ([] : List DOp)) (ys := (Y4_38 p_0 p_1)) good_Op un77 ty122 rfl (nb rfl) rfl rfl rfl (OwnL.empty w126 w126.heap.size w126.heap.size 122 4 (RF e_Op) (some ⟨b24, 0, none⟩)) (EncL.cons (c := [.int .i64 (6), .string (bs ((i_Table_rowWrite p_0 p_1.New).Key)), .string (bs (([] : Str))), .int .i64 (0)]) rfl rfl EncL.nil) (Or.inr ⟨_, _, rfl, rfl, hB129.cells (o := 0) (n := 4) rfl⟩) rfl Bl Bl oM oM (fun _ h _ => False.elim h) oM ?_)
  intro A132 c133 w134 row135 hO136 hG137 hrg138
  have hG137z := hG137.size
  refine SeqR.u rfl rfl (yl_storeA (vs := [.slice A132 ((([] : List DOp) ++ (Y4_38 p_0 p_1)).length) c133]) ty77 rfl rfl rfl rfl rfl rfl (Box.grown (Box.ex q124 hE130) hG137 (hW hrg138)) rfl ?_)
  intro w141 hB142 hO143
  have hO143z := hO143.size
  refine SeqR.done (rn rfl .nil (dn (CW.region (sM rfl (sd rfl (yl_loadN ty80 rfl rfl ((Box.only (Box.grown (Box.ex (Box.ex hB108 hE117) hE130) hG137 (hW hrg138)) hO143 oM).cells (n := 3) rfl) rfl (sd rfl (yl_callv (caps := [.pointer (some ⟨b31, 0, none⟩)]) en83 rfl rfl (oc rfl (oc rfl oz)) (Cal.of func83 rfl ntmps83 rfl (CW.seq ?_))))))))))
  refine CW.region (sd rfl (yl_box rfl rfl rfl ?_))
  intro b148 w149 hs150 hz151 hB152 hE153
  refine dn (CW.region ?_)
  have q154 := Box.ex hB142 hE153
  refine sd rfl (yl_load1 ty77 rfl rfl ((q154.cell 0).trans rfl) (sM rfl (sd rfl (yl_fieldAddr fd80_0 rfl rfl (sd rfl (yl_load1 ty9 rfl rfl ((hB152.cell 0).trans rfl) (sd rfl (yl_fieldAddr fd80_1 rfl rfl (sd rfl (yl_load1 ty9 rfl rfl ((hB152.cell 1).trans rfl) (sd rfl (yl_build (cs := [.int .i64 (2), .string (bs ((i_Table_rowWrite p_0 p_1.New).Key)), .string (bs ((i_Table_rowWrite p_0 p_1.New).Val)), .int .i64 (0)]) rfl (oc rfl (oc rfl (oc rfl oz))) (by kernel_rfl) (sd rfl (yl_buildSlice (cs := [.int .i64 (2), .string (bs ((i_Table_rowWrite p_0 p_1.New).Key)), .string (bs ((i_Table_rowWrite p_0 p_1.New).Val)), .int .i64 (0)]) un77 ty122 (by decide) rfl (oc rfl oz) (by kernel_rfl) ?_))))))))))))))
  intro b155 w156 hs157 hz158 hB159 hE160
  have hO161 : OwnL w156 b155 (b155 + 1) 122 4 (RF e_Op) (some ⟨b155, 0, none⟩) 1 1 (Y2_38 p_0 p_1) := OwnL.of_box (S := fun _ => False) hB159 (Nat.le_refl _) (Nat.lt_succ_self _) (EncL.cons (c := [.int .i64 (2), .string (bs ((i_Table_rowWrite p_0 p_1.New).Key)), .string (bs ((i_Table_rowWrite p_0 p_1.New).Val)), .int .i64 (0)]) rfl rfl EncL.nil) (nb rfl) (fun h => h) (fun _ h => False.elim h)
  refine sd rfl (yl_appendL (S := (fun _ => False)) (lo := w126.heap.size) (hi := w134.heap.size) (xs := (([] : List DOp) ++ (Y4_38 p_0 p_1))) (ys := (Y2_38 p_0 p_1)) good_Op un77 ty122 rfl (nb rfl) rfl rfl rfl (OwnL.ex good_Op (OwnL.ex good_Op (OwnL.only good_Op hO136 hO143 oM) hE153) hE160) (EncL.cons (c := [.int .i64 (2), .string (bs ((i_Table_rowWrite p_0 p_1.New).Key)), .string (bs ((i_Table_rowWrite p_0 p_1.New).Val)), .int .i64 (0)]) rfl rfl EncL.nil) (Or.inr ⟨_, _, rfl, rfl, hB159.cells (o := 0) (n := 4) rfl⟩) rfl Bl Bl oM oM (fun _ h _ => False.elim h) oM ?_)
  intro A165 c166 w167 row168 hO169 hG170 hrg171
  have hG170z := hG170.size
  refine SeqR.u rfl rfl (yl_storeA (vs := [.slice A165 (((([] : List DOp) ++ (Y4_38 p_0 p_1)) ++ (Y2_38 p_0 p_1)).length) c166]) ty77 rfl rfl rfl rfl rfl rfl (Box.grown (Box.ex q154 hE160) hG170 (hW hrg171)) rfl ?_)
  intro w174 hB175 hO176
  have hO176z := hO176.size
  refine SeqR.done (rn rfl .nil (SeqR.done (bn (tn (CW.seq (cR (sd rfl (yl_fieldAddr fd39_2 rfl rfl ?_))))))))
  have q186 := Box.only (Box.grown (Box.ex (Box.ex (Box.only (Box.grown (Box.ex (Box.ex (Box.only (Box.ex q75 hE105) hO109 oM) hE117) hE130) hG137 (hW hrg138)) hO143 oM) hE153) hE160) hG170 (hW hrg171)) hO176 oM
  refine sd rfl (yl_load1 ty37 rfl rfl ((q186.cell 2).trans rfl) (sd rfl (yL un37 rfl rfl (sM rfl (dn (CW.block ?_))))))
  have q245 := RdS.grown gS (RdS.ex gS (RdS.ex gS (RdS.only gS (RdS.grown gS (RdS.ex gS (RdS.ex gS (RdS.only gS (RdS.ex gS q84 hE105) hO109 iV) hE117) hE130) hG137 (hV hrg138)) hO143 iV) hE153) hE160) hG170 (hV hrg171)
  have q255 := RdS.grown gI (RdS.ex gI (RdS.ex gI (RdS.only gI (RdS.grown gI (RdS.ex gI (RdS.ex gI (RdS.only gI (RdS.ex gI q93 hE105) hO109 iV) hE117) hE130) hG137 (hV hrg138)) hO143 iV) hE153) hE160) hG170 (hV hrg171)
  have q277 := RdS.ex gS (RdS.ex gS (RdS.only gS (RdS.ex gS (RdS.only gS y15 hO59 iV) hE105) hO109 iV) hE117) hE130
  have q292 := RdS.grown gS (RdS.ex gS (RdS.ex gS (RdS.only gS (RdS.grown gS (RdS.ex gS (RdS.ex gS (RdS.only gS (RdS.ex gS q102 hE105) hO109 iV) hE117) hE130) hG137 (hV hrg138)) hO143 iV) hE153) hE160) hG170 (hV hrg171)
  have q311 := Ex.trans (Ex.trans (Below.only (Below.grown (Ex.trans (Ex.trans (Below.only (Ex.trans y5 hE105) hO109 oM) hE117) hE130) hG137 oM (hW hrg138)) hO143 oM) hE153) hE160
  refine CW.loop (fun m234 L235 w236 => ∃ (k187 : Nat) (x230 : List DOp) (A231 : Option Addr) (c232 : Nat) (u233 : Nat), m234 = p_0.Idxs.length - k187 ∧ k187 ≤ p_0.Idxs.length ∧ w174.heap.size ≤ w236.heap.size ∧ Sub [(2, .pointer (some ⟨b12, 0, none⟩)), (3, .pointer (some ⟨b18, 0, none⟩)), (5, .pointer (some ⟨b31, 0, none⟩)), (6, .func (.func 83) #[] #[.pointer (some ⟨b31, 0, none⟩)]), (59, .slice A2 p_0.Idxs.length c2), (60, .int .i64 ((p_0.Idxs.length : Int))), (61, .int .i64 ((k187 : Int)))] L235 ∧ Box w236 b12 39 [.string (bs (p_0.Name)), .slice A1 p_0.Cols.length c1, .slice A2 p_0.Idxs.length c2] ∧ RdS w236 (Iv 0 w.heap.size) (RF e_Str) 1 A1 p_0.Cols.length c1 p_0.Cols ∧ RdS w236 (Iv 0 w.heap.size) (RF e_Idx) 3 A2 p_0.Idxs.length c2 p_0.Idxs ∧ Box w236 b18 44 [.int .i64 (p_1.Kind), .slice A4 p_1.Old.Vals.length c4, .slice A5 p_1.New.Vals.length c5] ∧ RdS w236 (Iv 0 w.heap.size) (RF e_Str) 1 A4 p_1.Old.Vals.length c4 p_1.Old.Vals ∧ RdS w236 (Iv 0 w.heap.size) (RF e_Str) 1 A5 p_1.New.Vals.length c5 p_1.New.Vals ∧ Box w236 b31 77 [.slice A231 x230.length c232] ∧ OwnL w236 w126.heap.size u233 122 4 (RF e_Op) A231 x230.length c232 x230 ∧ Ex w w236 ∧ (w126.heap.size ≤ u233 ∧ u233 ≤ w236.heap.size) ∧ x230.length ≤ 0 + 1 + 1 + 3 * (k187 - 0) ∧ loopM (B_i_Table_opsFor_0 p_0 p_1) (p_0.Idxs.length - k187) k187 (x230) = loopM (B_i_Table_opsFor_0 p_0 p_1) (p_0.Idxs.length - 0) 0 (((([] : List DOp) ++ (Y4_38 p_0 p_1)) ++ (Y2_38 p_0 p_1)))) (p_0.Idxs.length - 0) ?_ ?_
  ·exact ⟨0, ((([] : List DOp) ++ (Y4_38 p_0 p_1)) ++ (Y2_38 p_0 p_1)), A165, c166, w167.heap.size, rfl, oM, Nat.le_refl _, (sR rfl), q186, (RdS.only gS q245 hO176 iV), (RdS.only gI q255 hO176 iV), (Box.only (Box.grown (Box.ex (Box.ex (Box.only (Box.grown (Box.ex (Box.ex q111 hE117) hE130) hG137 (hW hrg138)) hO143 oM) hE153) hE160) hG170 (hW hrg171)) hO176 oM), (RdS.only gS (RdS.grown gS (RdS.ex gS (RdS.ex gS (RdS.only gS (RdS.grown gS q277 hG137 (hV hrg138)) hO143 iV) hE153) hE160) hG170 (hV hrg171)) hO176 iV), (RdS.only gS q292 hO176 iV), hB175, (OwnL.only good_Op hO169 hO176 oM), (Below.only (Below.grown q311 hG170 oM (hW hrg171)) hO176 oM), oM, (by first | (simp; done) | (first | omega | (simp only [lN, toS_length]; omega))), rfl⟩
  ·rintro m314 L315 w316 ⟨k187, x230, A231, c232, u233, rfl, hk317, hsz319, hl320, hf321, hf322, hf323, hf324, hf325, hf326, hf327, hf328, hf329, hu330, hln331, hI318⟩
   refine CW.sub hl320 ?_
   have hf321z := Box.lt hf321
   have hf324z := Box.lt hf324
   have hf327z := Box.lt hf327
   have hf329z := Ex.size hf329
   have hbg332 := RdS.big hf323
   rcases Nat.lt_or_ge k187 p_0.Idxs.length with hlt333 | hlt333
   ·have hrd := actOf_round pre0 pre1 hlt333
    refine cR (sd rfl (yl_lss rfl rfl rfl (dn (CW.seq (CW.cond_t rfl (lt_t hlt333) (CW.skip (tn ?_)))))))
    refine CW.seq (CW.block (cR ?_))
    obtain ⟨_, _, _, eA334, _, ebl334, _, eR334, eC334⟩ := RdS.aD hf323 d_Idx (i := k187)
    obtain rfl := eR334
    refine sd rfl (yl_ixN un37 ty111 rfl rfl rfl eA334 (sd rfl (yl_loadN ty111 rfl rfl eC334 rfl (sd rfl (yB ty111 (cs := [.string (bs (([] : Str))), .int .i64 (0), .int .i64 (0)]) rfl rfl ?_)))))
    intro b335 w336 hs337 hz338 hB339 hE340
    refine SeqR.u rfl rfl (yl_storeA (vs := [.string (bs ((p_0.Idxs.getD k187 d_Idx).Name)), .int .i64 ((p_0.Idxs.getD k187 d_Idx).Col), .int .i64 ((p_0.Idxs.getD k187 d_Idx).Stage)]) ty111 rfl rfl rfl rfl rfl rfl hB339 rfl ?_)
    intro w341 hB342 hO343
    have hO343z := hO343.size
    refine dn (cR (sA rfl (sA rfl (dn (CW.seq ?_)))))
    refine cR (sd rfl (yl_fieldAddr fd44_0 rfl rfl ?_))
    have q345 := Box.only (Box.ex hf324 hE340) hO343 oM
    refine sd rfl (yl_load1 ty3 rfl rfl ((q345.cell 0).trans rfl) (sd rfl (yl_neq rfl rfl rfl (dn (CW.cond_f rfl (not_t hb67) (CW.skip (tn (CW.seq (CW.seq ?_)))))))))
    refine CW.region (sd rfl (yl_fieldAddr fd44_0 rfl rfl (sd rfl (yl_load1 ty3 rfl rfl ((q345.cell 0).trans rfl) (sd rfl (yl_neq rfl rfl rfl (dn (CW.cond_t rfl (not_f (decide_eq_false oM)) (CW.region ?_)))))))))
    have q347 := Box.only (Box.ex hf321 hE340) hO343 oM
    refine sd rfl (yl_loadN ty39 rfl rfl (q347.cells (n := 3) rfl) rfl (sd rfl (yl_fieldAddr fd111_0 rfl rfl (sd rfl (yl_load1 ty9 rfl rfl ((hB342.cell 0).trans rfl) (sd rfl (yl_fieldAddr fd44_2 rfl rfl (sd rfl (yl_loadN ty42 rfl rfl (q345.cells (n := 1) rfl) rfl ?_)))))))))
    have q349 := RdS.only gS (RdS.ex gS hf322 hE340) hO343 iV
    have q351 := RdS.only gI (RdS.ex gI hf323 hE340) hO343 iV
    have q353 := RdS.only gS (RdS.ex gS hf326 hE340) hO343 iV
    refine sd rfl (yC en85 rfl (oc rfl (oc rfl (oc rfl oz))) (Cal.mono (c_i_Table_idxKey p_0 ((p_0.Idxs.getD k187 d_Idx).Name) p_1.New (RdS.up q349 gS) (RdS.up q351 gI) (RdS.up q353 gS) o3 (okL.getD o3.2.2 ok_d_Idx _) o6.2 Bo Bo Bo (pre1.1 oM).2) ?_))
    rintro v356 w354 ⟨rfl, ho355, hE357⟩
    have hE357z := Ex.size hE357
    have y19 := RdS.ex gS (RdS.only gS (RdS.ex gS hf325 hE340) hO343 iV) hE357
    have y16 := OwnL.ex good_Op (OwnL.only good_Op (OwnL.ex good_Op hf328 hE340) hO343 oM) hE357
    refine sA rfl (dn (CW.seq (cR (sM rfl (sd rfl (yl_sneq (a := ([] : Str)) (b := ([] : Str)) rfl rfl rfl (sM rfl ?_)))))))
    refine sz rfl rfl (not_t (rfl : (([] : Str) == ([] : Str)) = true)) (sz rfl rfl (not_t (rfl : (([] : Str) == ([] : Str)) = true)) (sz rfl rfl (not_t (rfl : (([] : Str) == ([] : Str)) = true)) (sd rfl (yl_pick_f rfl rfl (not_t (rfl : (([] : Str) == ([] : Str)) = true)) rfl (sM rfl (sz rfl rfl rfl (sz rfl rfl rfl (sz rfl rfl rfl (sd rfl (yl_pick_f rfl rfl rfl rfl ?_))))))))))
    refine dn (CW.cond_f rfl rfl (CW.skip (tn (cR (sM rfl (sd rfl (yl_sneq (a := (i_Table_idxKey p_0 ((p_0.Idxs.getD k187 d_Idx).Name) p_1.New)) (b := ([] : Str)) rfl rfl rfl ?_)))))))
    refine sM rfl (bcase ((i_Table_idxKey p_0 ((p_0.Idxs.getD k187 d_Idx).Name) p_1.New) == ([] : Str)) (fun hb358 => ?_) (fun hb358 => ?_))
    ·refine sz rfl rfl (not_t hb358) (sz rfl rfl (not_t hb358) (sz rfl rfl (not_t hb358) (sd rfl (yl_pick_f rfl rfl (not_t hb358) rfl (dn (CW.cond_f rfl rfl (CW.skip (bn ?_))))))))
     refine tn (CW.region (sd rfl (yl_inc rfl rfl rfl oM (sM rfl (dn ?_)))))
     have hB359 : B_i_Table_opsFor_0 p_0 p_1 k187 (x230) = .cont (x230) := by simp only [B_i_Table_opsFor_0, hb67, hb358, cL]
     exact ⟨p_0.Idxs.length - (k187 + 1), oM, k187 + 1, x230, A231, c232, u233, rfl, hlt333, oM, (sR rfl), (Box.ex q347 hE357), (RdS.ex gS q349 hE357), (RdS.ex gI q351 hE357), (Box.ex q345 hE357), y19, (RdS.ex gS q353 hE357), (Box.ex (Box.only (Box.ex hf327 hE340) hO343 oM) hE357), y16, (Ex.trans (Below.only (Ex.trans hf329 hE340) hO343 oM) hE357), oM, Bl, (loopM.cont hlt333 hB359).symm.trans hI318⟩
    ·refine sy rfl rfl (not_f hb358) (yl_fieldAddr fd111_2 rfl rfl (sy rfl rfl (not_f hb358) (yl_load1 ty3 rfl rfl (((Box.ex hB342 hE357).cell 2).trans rfl) (sy rfl rfl (not_f hb358) (yC en87 rfl (oc rfl oz) (Cal.mono (c_i_inserts ((p_0.Idxs.getD k187 d_Idx).Stage)) ?_))))))
     rintro v379 w378 ⟨rfl, hE380⟩
     have hE380z := Ex.size hE380
     refine sd rfl (yl_pick_t rfl rfl (not_f hb358) rfl (dn (bcase (i_inserts ((p_0.Idxs.getD k187 d_Idx).Stage)) (fun hb381 => ?_) (fun hb381 => ?_))))
     ·refine CW.cond_t rfl hb381 (CW.region (sM rfl (sM rfl (sd rfl (yl_build (cs := [.string (bs ((i_Table_idxKey p_0 ((p_0.Idxs.getD k187 d_Idx).Name) p_1.New))), .string (bs (([] : Str))), .bool (false)]) rfl (oc rfl oz) (by kernel_rfl) (sd rfl (yl_callv (caps := [.pointer (some ⟨b31, 0, none⟩)]) en83 rfl rfl (oc rfl (oc rfl oz)) (Cal.of func83 rfl ntmps83 rfl (cR (sd rfl (yl_box rfl rfl rfl ?_)))))))))))
      intro b382 w383 hs384 hz385 hB386 hE387
      refine dn (CW.region ?_)
      have q392 := Box.ex (Box.ex (Box.ex (Box.only (Box.ex hf327 hE340) hO343 oM) hE357) hE380) hE387
      refine sd rfl (yl_load1 ty77 rfl rfl ((q392.cell 0).trans rfl) (sM rfl (sd rfl (yl_fieldAddr fd80_0 rfl rfl (sd rfl (yl_load1 ty9 rfl rfl ((hB386.cell 0).trans rfl) (sd rfl (yl_fieldAddr fd80_1 rfl rfl (sd rfl (yl_load1 ty9 rfl rfl ((hB386.cell 1).trans rfl) (sd rfl (yl_build (cs := [.int .i64 (2), .string (bs ((i_Table_idxKey p_0 ((p_0.Idxs.getD k187 d_Idx).Name) p_1.New))), .string (bs (([] : Str))), .int .i64 (0)]) rfl (oc rfl (oc rfl (oc rfl oz))) (by kernel_rfl) (sd rfl (yl_buildSlice (cs := [.int .i64 (2), .string (bs ((i_Table_idxKey p_0 ((p_0.Idxs.getD k187 d_Idx).Name) p_1.New))), .string (bs (([] : Str))), .int .i64 (0)]) un77 ty122 (by decide) rfl (oc rfl oz) (by kernel_rfl) ?_))))))))))))))
      intro b393 w394 hs395 hz396 hB397 hE398
      have hO399 : OwnL w394 b393 (b393 + 1) 122 4 (RF e_Op) (some ⟨b393, 0, none⟩) 1 1 (Y5_38 p_0 p_1 k187) := OwnL.of_box (S := fun _ => False) hB397 (Nat.le_refl _) (Nat.lt_succ_self _) (EncL.cons (c := [.int .i64 (2), .string (bs ((i_Table_idxKey p_0 ((p_0.Idxs.getD k187 d_Idx).Name) p_1.New))), .string (bs (([] : Str))), .int .i64 (0)]) rfl rfl EncL.nil) (nb rfl) (fun h => h) (fun _ h => False.elim h)
      refine sd rfl (yl_appendL (S := (fun _ => False)) (lo := w126.heap.size) (hi := u233) (xs := x230) (ys := (Y5_38 p_0 p_1 k187)) good_Op un77 ty122 rfl (nb rfl) rfl rfl rfl (OwnL.ex good_Op (OwnL.ex good_Op (OwnL.ex good_Op y16 hE380) hE387) hE398) (EncL.cons (c := [.int .i64 (2), .string (bs ((i_Table_idxKey p_0 ((p_0.Idxs.getD k187 d_Idx).Name) p_1.New))), .string (bs (([] : Str))), .int .i64 (0)]) rfl rfl EncL.nil) (Or.inr ⟨_, _, rfl, rfl, hB397.cells (o := 0) (n := 4) rfl⟩) rfl Bl Bl oM oM (fun _ h _ => False.elim h) oM ?_)
      intro A406 c407 w408 row409 hO410 hG411 hrg412
      have hG411z := hG411.size
      refine SeqR.u rfl rfl (yl_storeA (vs := [.slice A406 ((x230 ++ (Y5_38 p_0 p_1 k187)).length) c407]) ty77 rfl rfl rfl rfl rfl rfl (Box.grown (Box.ex q392 hE398) hG411 (hW hrg412)) rfl ?_)
      intro w415 hB416 hO417
      have hO417z := hO417.size
      refine SeqR.done (rn rfl .nil (SeqR.done (bn (tn (CW.region (sd rfl (yl_inc rfl rfl rfl oM (sM rfl (SeqR.done ?_)))))))))
      refine tn ?_
      have hB418 : B_i_Table_opsFor_0 p_0 p_1 k187 (x230) = .cont ((x230 ++ (Y5_38 p_0 p_1 k187))) := by simp only [B_i_Table_opsFor_0, hb67, hb358, hb381, cL]
      exact ⟨p_0.Idxs.length - (k187 + 1), oM, k187 + 1, (x230 ++ (Y5_38 p_0 p_1 k187)), A406, c407, w408.heap.size, rfl, hlt333, oM, (sR rfl), (Box.only (Box.grown (Box.ex (Box.ex (Box.ex (Box.ex q347 hE357) hE380) hE387) hE398) hG411 (hW hrg412)) hO417 oM), (RdS.only gS (RdS.grown gS (RdS.ex gS (RdS.ex gS (RdS.ex gS (RdS.ex gS q349 hE357) hE380) hE387) hE398) hG411 (hV hrg412)) hO417 iV), (RdS.only gI (RdS.grown gI (RdS.ex gI (RdS.ex gI (RdS.ex gI (RdS.ex gI q351 hE357) hE380) hE387) hE398) hG411 (hV hrg412)) hO417 iV), (Box.only (Box.grown (Box.ex (Box.ex (Box.ex (Box.ex q345 hE357) hE380) hE387) hE398) hG411 (hW hrg412)) hO417 oM), (RdS.only gS (RdS.grown gS (RdS.ex gS (RdS.ex gS (RdS.ex gS y19 hE380) hE387) hE398) hG411 (hV hrg412)) hO417 iV), (RdS.only gS (RdS.grown gS (RdS.ex gS (RdS.ex gS (RdS.ex gS (RdS.ex gS q353 hE357) hE380) hE387) hE398) hG411 (hV hrg412)) hO417 iV), hB416, (OwnL.only good_Op hO410 hO417 oM), (Below.only (Below.grown (Ex.trans (Ex.trans (Ex.trans (Ex.trans (Below.only (Ex.trans hf329 hE340) hO343 oM) hE357) hE380) hE387) hE398) hG411 oM (hW hrg412)) hO417 oM), oM, Bl, (loopM.cont hlt333 hB418).symm.trans hI318⟩
     ·refine CW.cond_f rfl hb381 (CW.skip (bn (tn (CW.region (sd rfl (yl_inc rfl rfl rfl oM (sM rfl (dn ?_))))))))
      have hB466 : B_i_Table_opsFor_0 p_0 p_1 k187 (x230) = .cont (x230) := by simp only [B_i_Table_opsFor_0, hb67, hb358, hb381, cL]
      exact ⟨p_0.Idxs.length - (k187 + 1), oM, k187 + 1, x230, A231, c232, u233, rfl, hlt333, oM, (sR rfl), (Box.ex (Box.ex q347 hE357) hE380), (RdS.ex gS (RdS.ex gS q349 hE357) hE380), (RdS.ex gI (RdS.ex gI q351 hE357) hE380), (Box.ex (Box.ex q345 hE357) hE380), (RdS.ex gS y19 hE380), (RdS.ex gS (RdS.ex gS q353 hE357) hE380), (Box.ex (Box.ex (Box.only (Box.ex hf327 hE340) hO343 oM) hE357) hE380), (OwnL.ex good_Op y16 hE380), (Ex.trans (Ex.trans (Below.only (Ex.trans hf329 hE340) hO343 oM) hE357) hE380), oM, Bl, (loopM.cont hlt333 hB466).symm.trans hI318⟩
   ·refine cR (sd rfl (yl_lss rfl rfl rfl (dn (CW.seq (CW.cond_f rfl (lt_f hlt333) (CW.exit (tx ?_)))))))
    refine tx ?_
    have hL493 : loopM (B_i_Table_opsFor_0 p_0 p_1) (p_0.Idxs.length - 0) 0 (((([] : List DOp) ++ (Y4_38 p_0 p_1)) ++ (Y2_38 p_0 p_1))) = .done (x230) := hI318.symm.trans (loopM.stop hlt333)
    refine bx (tn (cR (sd rfl (yl_load1 ty77 rfl rfl ((hf327.cell 0).trans rfl) (sA rfl (dn (CW.ret ?_)))))))
    refine rr rfl (.cons rfl .nil) ?_
    rw [show (i_Table_opsFor p_0 p_1) = (x230) by simp only [i_Table_opsFor, hb67, hL493, cL]]
    exact ⟨A231, c232, w126.heap.size, u233, rfl, hf328, oM, hf329⟩
 ·refine CW.cond_t rfl (not_f hb67) (cR ?_)
  have q502 := Box.only (Box.only (Box.ex (Box.ex (Box.only (Box.ex (Box.ex (Box.ex hB16 hE23) hE29) hE36) hO39 oM) hE45) hE51) hO55 oM) hO59 oM
  refine sd rfl (yl_loadN ty39 rfl rfl (q502.cells (n := 3) rfl) rfl (sd rfl (yl_fieldAddr fd44_1 rfl rfl (sd rfl (yl_loadN ty42 rfl rfl (q66.cells (n := 1) rfl) rfl ?_)))))
  have q511 := RdS.only gS y13 hO59 iV
  have q520 := RdS.only gI y14 hO59 iV
  have q529 := RdS.only gS y15 hO59 iV
  refine sd rfl (yC en84 rfl (oc rfl (oc rfl oz)) (Cal.mono (c_i_Table_rowWrite p_0 p_1.Old (RdS.up q511 gS) (RdS.up q520 gI) (RdS.up q529 gS) o3 o6.1 Bo Bo (pre1.2 oM).2) ?_))
  rintro v531 w530 ⟨rfl, hE532⟩
  have hE532z := Ex.size hE532
  refine SeqR.u rfl rfl (yl_storeA (vs := [.string (bs ((i_Table_rowWrite p_0 p_1.Old).Key)), .string (bs ((i_Table_rowWrite p_0 p_1.Old).Val)), .bool ((i_Table_rowWrite p_0 p_1.Old).Gone)]) ty80 rfl rfl rfl rfl rfl rfl (Box.ex (Box.only hB54 hO59 oM) hE532) rfl ?_)
  intro w535 hB536 hO537
  have hO537z := hO537.size
  refine dn (CW.region (sM rfl (sd rfl (yl_loadN ty80 rfl rfl (hB536.cells (n := 3) rfl) rfl (sd rfl (yl_callv (caps := [.pointer (some ⟨b31, 0, none⟩)]) en83 rfl rfl (oc rfl (oc rfl oz)) (Cal.of func83 rfl ntmps83 rfl (cR (sd rfl (yl_box rfl rfl rfl ?_))))))))))
  intro b538 w539 hs540 hz541 hB542 hE543
  refine dn (CW.region ?_)
  have q550 := Box.ex (Box.only (Box.ex (Box.only (Box.only (Box.ex (Box.ex hB38 hE45) hE51) hO55 oM) hO59 oM) hE532) hO537 oM) hE543
  refine sd rfl (yl_load1 ty77 rfl rfl ((q550.cell 0).trans rfl) (sM rfl (sd rfl (yl_fieldAddr fd80_0 rfl rfl (sd rfl (yl_load1 ty9 rfl rfl ((hB542.cell 0).trans rfl) (sd rfl (yl_fieldAddr fd80_1 rfl rfl (sd rfl (yl_load1 ty9 rfl rfl ((hB542.cell 1).trans rfl) (sd rfl (yl_build (cs := [.int .i64 (7), .string (bs ((i_Table_rowWrite p_0 p_1.Old).Key)), .string (bs ((i_Table_rowWrite p_0 p_1.Old).Val)), .int .i64 (0)]) rfl (oc rfl (oc rfl (oc rfl oz))) (by kernel_rfl) (sd rfl (yl_buildSlice (cs := [.int .i64 (7), .string (bs ((i_Table_rowWrite p_0 p_1.Old).Key)), .string (bs ((i_Table_rowWrite p_0 p_1.Old).Val)), .int .i64 (0)]) un77 ty122 (by decide) rfl (oc rfl oz) (by kernel_rfl) ?_))))))))))))))
  intro b551 w552 hs553 hz554 hB555 hE556
  have hO557 : OwnL w552 b551 (b551 + 1) 122 4 (RF e_Op) (some ⟨b551, 0, none⟩) 1 1 ([(⟨7, (i_Table_rowWrite p_0 p_1.Old).Key, (i_Table_rowWrite p_0 p_1.Old).Val, 0⟩ : DOp)] : List DOp) := OwnL.of_box (S := fun _ => False) hB555 (Nat.le_refl _) (Nat.lt_succ_self _) (EncL.cons (c := [.int .i64 (7), .string (bs ((i_Table_rowWrite p_0 p_1.Old).Key)), .string (bs ((i_Table_rowWrite p_0 p_1.Old).Val)), .int .i64 (0)]) rfl rfl EncL.nil) (nb rfl) (fun h => h) (fun _ h => False.elim h)
  refine sd rfl (yl_appendL (S := (fun _ => False)) (lo := w552.heap.size) (hi := w552.heap.size) (xs := ([] : List DOp)) (ys := ([(⟨7, (i_Table_rowWrite p_0 p_1.Old).Key, (i_Table_rowWrite p_0 p_1.Old).Val, 0⟩ : DOp)] : List DOp)) good_Op un77 ty122 rfl (nb rfl) rfl rfl rfl (OwnL.empty w552 w552.heap.size w552.heap.size 122 4 (RF e_Op) (some ⟨b24, 0, none⟩)) (EncL.cons (c := [.int .i64 (7), .string (bs ((i_Table_rowWrite p_0 p_1.Old).Key)), .string (bs ((i_Table_rowWrite p_0 p_1.Old).Val)), .int .i64 (0)]) rfl rfl EncL.nil) (Or.inr ⟨_, _, rfl, rfl, hB555.cells (o := 0) (n := 4) rfl⟩) rfl Bl Bl oM oM (fun _ h _ => False.elim h) oM ?_)
  intro A558 c559 w560 row561 hO562 hG563 hrg564
  have hG563z := hG563.size
  have y23 := RdS.grown gI (RdS.ex gI (RdS.ex gI (RdS.only gI (RdS.ex gI q520 hE532) hO537 iV) hE543) hE556) hG563 (hV hrg564)
  have y22 := RdS.grown gS (RdS.ex gS (RdS.ex gS (RdS.only gS (RdS.ex gS q511 hE532) hO537 iV) hE543) hE556) hG563 (hV hrg564)
  refine SeqR.u rfl rfl (yl_storeA (vs := [.slice A558 ((Y1_38 p_0 p_1).length) c559]) ty77 rfl rfl rfl rfl rfl rfl (Box.grown (Box.ex q550 hE556) hG563 (hW hrg564)) rfl ?_)
  intro w567 hB568 hO569
  have hO569z := hO569.size
  have y21 := Below.only (Below.grown (Ex.trans (Ex.trans (Below.only (Ex.trans y5 hE532) hO537 oM) hE543) hE556) hG563 oM (hW hrg564)) hO569 oM
  have y17 := RdS.only gS (RdS.grown gS (RdS.ex gS (RdS.ex gS (RdS.only gS (RdS.ex gS q529 hE532) hO537 iV) hE543) hE556) hG563 (hV hrg564)) hO569 iV
  refine SeqR.done (rn rfl .nil (dn (CW.seq (cR (sd rfl (yl_fieldAddr fd44_0 rfl rfl ?_))))))
  have q575 := Box.only (Box.grown (Box.ex (Box.ex (Box.only (Box.ex q66 hE532) hO537 oM) hE543) hE556) hG563 (hW hrg564)) hO569 oM
  refine sd rfl (yl_load1 ty3 rfl rfl ((q575.cell 0).trans rfl) (sd rfl (yl_neq rfl rfl rfl (dn (bcD (q := p_1.Kind = 2) (fun hb576 hb576p => ?_) (fun hb576 hb576p => ?_))))))
  ·refine CW.cond_f rfl (not_t hb576) (CW.skip (tn (CW.seq (cR (sd rfl (yl_fieldAddr fd44_0 rfl rfl (sd rfl (yl_load1 ty3 rfl rfl ((q575.cell 0).trans rfl) (SeqR.done ?_)))))))))
   refine tn (CW.block (cR (sd rfl (yl_eql rfl rfl rfl (sA rfl (dn (CW.cond_f rfl hb67 ?_)))))))
   refine cR (sd rfl (yl_eql rfl rfl rfl (sA rfl (dn (CW.cond_t rfl hb576 (CW.region (sM rfl ?_)))))))
   refine sd rfl (yl_fieldAddr fd80_0 rfl rfl (sd rfl (yl_load1 ty9 rfl rfl (((Box.only (Box.grown (Box.ex (Box.ex hB536 hE543) hE556) hG563 (hW hrg564)) hO569 oM).cell 0).trans rfl) (sd rfl (yl_build (cs := [.string (bs ((i_Table_rowWrite p_0 p_1.Old).Key)), .string (bs (([] : Str))), .bool (false)]) rfl (oc rfl oz) (by kernel_rfl) (sd rfl (yl_callv (caps := [.pointer (some ⟨b31, 0, none⟩)]) en83 rfl rfl (oc rfl (oc rfl oz)) (Cal.of func83 rfl ntmps83 rfl (cR (sd rfl (yl_box rfl rfl rfl ?_)))))))))))
   intro b581 w582 hs583 hz584 hB585 hE586
   refine dn (CW.region ?_)
   have q587 := Box.ex hB568 hE586
   refine sd rfl (yl_load1 ty77 rfl rfl ((q587.cell 0).trans rfl) (sM rfl (sd rfl (yl_fieldAddr fd80_0 rfl rfl (sd rfl (yl_load1 ty9 rfl rfl ((hB585.cell 0).trans rfl) (sd rfl (yl_fieldAddr fd80_1 rfl rfl (sd rfl (yl_load1 ty9 rfl rfl ((hB585.cell 1).trans rfl) (sd rfl (yl_build (cs := [.int .i64 (3), .string (bs ((i_Table_rowWrite p_0 p_1.Old).Key)), .string (bs (([] : Str))), .int .i64 (0)]) rfl (oc rfl (oc rfl (oc rfl oz))) (by kernel_rfl) (sd rfl (yl_buildSlice (cs := [.int .i64 (3), .string (bs ((i_Table_rowWrite p_0 p_1.Old).Key)), .string (bs (([] : Str))), .int .i64 (0)]) un77 ty122 (by decide) rfl (oc rfl oz) (by kernel_rfl) ?_))))))))))))))
   intro b588 w589 hs590 hz591 hB592 hE593
   have hO594 : OwnL w589 b588 (b588 + 1) 122 4 (RF e_Op) (some ⟨b588, 0, none⟩) 1 1 (Y7_38 p_0 p_1) := OwnL.of_box (S := fun _ => False) hB592 (Nat.le_refl _) (Nat.lt_succ_self _) (EncL.cons (c := [.int .i64 (3), .string (bs ((i_Table_rowWrite p_0 p_1.Old).Key)), .string (bs (([] : Str))), .int .i64 (0)]) rfl rfl EncL.nil) (nb rfl) (fun h => h) (fun _ h => False.elim h)
   refine sd rfl (yl_appendL (S := (fun _ => False)) (lo := w552.heap.size) (hi := w560.heap.size) (xs := (Y1_38 p_0 p_1)) (ys := (Y7_38 p_0 p_1)) good_Op un77 ty122 rfl (nb rfl) rfl rfl rfl (OwnL.ex good_Op (OwnL.ex good_Op (OwnL.only good_Op hO562 hO569 oM) hE586) hE593) (EncL.cons (c := [.int .i64 (3), .string (bs ((i_Table_rowWrite p_0 p_1.Old).Key)), .string (bs (([] : Str))), .int .i64 (0)]) rfl rfl EncL.nil) (Or.inr ⟨_, _, rfl, rfl, hB592.cells (o := 0) (n := 4) rfl⟩) rfl Bl Bl oM oM (fun _ h _ => False.elim h) oM ?_)
   intro A598 c599 w600 row601 hO602 hG603 hrg604
   have hG603z := hG603.size
   refine SeqR.u rfl rfl (yl_storeA (vs := [.slice A598 (((Y1_38 p_0 p_1) ++ (Y7_38 p_0 p_1)).length) c599]) ty77 rfl rfl rfl rfl rfl rfl (Box.grown (Box.ex q587 hE593) hG603 (hW hrg604)) rfl ?_)
   intro w607 hB608 hO609
   have hO609z := hO609.size
   refine SeqR.done (rn rfl .nil (SeqR.done (bn (tn (CW.seq (cR (sd rfl (yl_fieldAddr fd39_2 rfl rfl ?_))))))))
   have q619 := Box.only (Box.grown (Box.ex (Box.ex (Box.only (Box.grown (Box.ex (Box.ex (Box.only (Box.ex q502 hE532) hO537 oM) hE543) hE556) hG563 (hW hrg564)) hO569 oM) hE586) hE593) hG603 (hW hrg604)) hO609 oM
   refine sd rfl (yl_load1 ty37 rfl rfl ((q619.cell 2).trans rfl) (sd rfl (yL un37 rfl rfl (sM rfl (dn (CW.block ?_))))))
   have q678 := RdS.grown gS (RdS.ex gS (RdS.ex gS (RdS.only gS y22 hO569 iV) hE586) hE593) hG603 (hV hrg604)
   have q688 := RdS.grown gI (RdS.ex gI (RdS.ex gI (RdS.only gI y23 hO569 iV) hE586) hE593) hG603 (hV hrg604)
   have q702 := RdS.grown gS (RdS.ex gS (RdS.ex gS y17 hE586) hE593) hG603 (hV hrg604)
   have q716 := RdS.ex gS (RdS.ex gS (RdS.only gS (RdS.ex gS (RdS.only gS y4 hO59 iV) hE532) hO537 iV) hE543) hE556
   have q740 := Ex.trans (Ex.trans y21 hE586) hE593
   refine CW.loop (fun m667 L668 w669 => ∃ (k620 : Nat) (x663 : List DOp) (A664 : Option Addr) (c665 : Nat) (u666 : Nat), m667 = p_0.Idxs.length - k620 ∧ k620 ≤ p_0.Idxs.length ∧ w607.heap.size ≤ w669.heap.size ∧ Sub [(2, .pointer (some ⟨b12, 0, none⟩)), (3, .pointer (some ⟨b18, 0, none⟩)), (5, .pointer (some ⟨b31, 0, none⟩)), (6, .func (.func 83) #[] #[.pointer (some ⟨b31, 0, none⟩)]), (59, .slice A2 p_0.Idxs.length c2), (60, .int .i64 ((p_0.Idxs.length : Int))), (61, .int .i64 ((k620 : Int)))] L668 ∧ Box w669 b12 39 [.string (bs (p_0.Name)), .slice A1 p_0.Cols.length c1, .slice A2 p_0.Idxs.length c2] ∧ RdS w669 (Iv 0 w.heap.size) (RF e_Str) 1 A1 p_0.Cols.length c1 p_0.Cols ∧ RdS w669 (Iv 0 w.heap.size) (RF e_Idx) 3 A2 p_0.Idxs.length c2 p_0.Idxs ∧ Box w669 b18 44 [.int .i64 (p_1.Kind), .slice A4 p_1.Old.Vals.length c4, .slice A5 p_1.New.Vals.length c5] ∧ RdS w669 (Iv 0 w.heap.size) (RF e_Str) 1 A4 p_1.Old.Vals.length c4 p_1.Old.Vals ∧ RdS w669 (Iv 0 w.heap.size) (RF e_Str) 1 A5 p_1.New.Vals.length c5 p_1.New.Vals ∧ Box w669 b31 77 [.slice A664 x663.length c665] ∧ OwnL w669 w552.heap.size u666 122 4 (RF e_Op) A664 x663.length c665 x663 ∧ Ex w w669 ∧ (w552.heap.size ≤ u666 ∧ u666 ≤ w669.heap.size) ∧ x663.length ≤ 0 + 1 + 1 + 3 * (k620 - 0) ∧ loopM (B_i_Table_opsFor_0 p_0 p_1) (p_0.Idxs.length - k620) k620 (x663) = loopM (B_i_Table_opsFor_0 p_0 p_1) (p_0.Idxs.length - 0) 0 (((Y1_38 p_0 p_1) ++ (Y7_38 p_0 p_1)))) (p_0.Idxs.length - 0) ?_ ?_
   ·exact ⟨0, ((Y1_38 p_0 p_1) ++ (Y7_38 p_0 p_1)), A598, c599, w600.heap.size, rfl, oM, Nat.le_refl _, (sR rfl), q619, (RdS.only gS q678 hO609 iV), (RdS.only gI q688 hO609 iV), (Box.only (Box.grown (Box.ex (Box.ex q575 hE586) hE593) hG603 (hW hrg604)) hO609 oM), (RdS.only gS q702 hO609 iV), (RdS.only gS (RdS.grown gS (RdS.ex gS (RdS.ex gS (RdS.only gS (RdS.grown gS q716 hG563 (hV hrg564)) hO569 iV) hE586) hE593) hG603 (hV hrg604)) hO609 iV), hB608, (OwnL.only good_Op hO602 hO609 oM), (Below.only (Below.grown q740 hG603 oM (hW hrg604)) hO609 oM), oM, (by first | (simp; done) | (first | omega | (simp only [lN, toS_length]; omega))), rfl⟩
   ·rintro m743 L744 w745 ⟨k620, x663, A664, c665, u666, rfl, hk746, hsz748, hl749, hf750, hf751, hf752, hf753, hf754, hf755, hf756, hf757, hf758, hu759, hln760, hI747⟩
    refine CW.sub hl749 ?_
    have hf750z := Box.lt hf750
    have hf753z := Box.lt hf753
    have hf756z := Box.lt hf756
    have hf758z := Ex.size hf758
    have hbg761 := RdS.big hf752
    rcases Nat.lt_or_ge k620 p_0.Idxs.length with hlt762 | hlt762
    ·have hrd := actOf_round pre0 pre1 hlt762
     refine cR (sd rfl (yl_lss rfl rfl rfl (dn (CW.seq (CW.cond_t rfl (lt_t hlt762) (CW.skip (tn ?_)))))))
     refine CW.seq (CW.block (cR ?_))
     obtain ⟨_, _, _, eA763, _, ebl763, _, eR763, eC763⟩ := RdS.aD hf752 d_Idx (i := k620)
     obtain rfl := eR763
     refine sd rfl (yl_ixN un37 ty111 rfl rfl rfl eA763 (sd rfl (yl_loadN ty111 rfl rfl eC763 rfl (sd rfl (yB ty111 (cs := [.string (bs (([] : Str))), .int .i64 (0), .int .i64 (0)]) rfl rfl ?_)))))
     intro b764 w765 hs766 hz767 hB768 hE769
     refine SeqR.u rfl rfl (yl_storeA (vs := [.string (bs ((p_0.Idxs.getD k620 d_Idx).Name)), .int .i64 ((p_0.Idxs.getD k620 d_Idx).Col), .int .i64 ((p_0.Idxs.getD k620 d_Idx).Stage)]) ty111 rfl rfl rfl rfl rfl rfl hB768 rfl ?_)
     intro w770 hB771 hO772
     have hO772z := hO772.size
     refine dn (cR (sA rfl (sA rfl (dn (CW.seq ?_)))))
     refine cR (sd rfl (yl_fieldAddr fd44_0 rfl rfl ?_))
     have q774 := Box.only (Box.ex hf753 hE769) hO772 oM
     refine sd rfl (yl_load1 ty3 rfl rfl ((q774.cell 0).trans rfl) (sd rfl (yl_neq rfl rfl rfl (dn (CW.cond_t rfl (not_f hb67) (CW.region ?_))))))
     have q776 := Box.only (Box.ex hf750 hE769) hO772 oM
     refine sd rfl (yl_loadN ty39 rfl rfl (q776.cells (n := 3) rfl) rfl (sd rfl (yl_fieldAddr fd111_0 rfl rfl (sd rfl (yl_load1 ty9 rfl rfl ((hB771.cell 0).trans rfl) (sd rfl (yl_fieldAddr fd44_1 rfl rfl (sd rfl (yl_loadN ty42 rfl rfl (q774.cells (n := 1) rfl) rfl ?_)))))))))
     have q778 := RdS.only gS (RdS.ex gS hf751 hE769) hO772 iV
     have q780 := RdS.only gI (RdS.ex gI hf752 hE769) hO772 iV
     have q782 := RdS.only gS (RdS.ex gS hf754 hE769) hO772 iV
     refine sd rfl (yC en85 rfl (oc rfl (oc rfl (oc rfl oz))) (Cal.mono (c_i_Table_idxKey p_0 ((p_0.Idxs.getD k620 d_Idx).Name) p_1.Old (RdS.up q778 gS) (RdS.up q780 gI) (RdS.up q782 gS) o3 (okL.getD o3.2.2 ok_d_Idx _) o6.1 Bo Bo Bo (pre1.2 oM).2) ?_))
     rintro v785 w783 ⟨rfl, ho784, hE786⟩
     have hE786z := Ex.size hE786
     have y20 := RdS.ex gS (RdS.only gS (RdS.ex gS hf755 hE769) hO772 iV) hE786
     have y18 := OwnL.ex good_Op (OwnL.only good_Op (OwnL.ex good_Op hf757 hE769) hO772 oM) hE786
     refine sA rfl (dn (CW.seq (cR (sd rfl (yl_fieldAddr fd44_0 rfl rfl ?_)))))
     have q787 := Box.ex q774 hE786
     refine sd rfl (yl_load1 ty3 rfl rfl ((q787.cell 0).trans rfl) (sd rfl (yl_neq rfl rfl rfl (dn (CW.cond_f rfl (not_t hb576) (CW.skip (tn (CW.seq (CW.seq ?_)))))))))
     refine CW.region (sM rfl (sd rfl (yl_sneq (a := (i_Table_idxKey p_0 ((p_0.Idxs.getD k620 d_Idx).Name) p_1.Old)) (b := ([] : Str)) rfl rfl rfl (sM rfl (bcase ((i_Table_idxKey p_0 ((p_0.Idxs.getD k620 d_Idx).Name) p_1.Old) == ([] : Str)) (fun hb788 => ?_) (fun hb788 => ?_))))))
     ·refine sz rfl rfl (not_t hb788) (sz rfl rfl (not_t hb788) (sz rfl rfl (not_t hb788) (sd rfl (yl_pick_f rfl rfl (not_t hb788) rfl (sM rfl (sz rfl rfl rfl (sz rfl rfl rfl (sz rfl rfl rfl (sd rfl (yl_pick_f rfl rfl rfl rfl ?_))))))))))
      refine dn (CW.cond_f rfl rfl (CW.skip (tn (cR (sM rfl (sd rfl (yl_sneq (a := ([] : Str)) (b := ([] : Str)) rfl rfl rfl ?_)))))))
      refine sM rfl (sz rfl rfl (not_t (rfl : (([] : Str) == ([] : Str)) = true)) (sz rfl rfl (not_t (rfl : (([] : Str) == ([] : Str)) = true)) (sz rfl rfl (not_t (rfl : (([] : Str) == ([] : Str)) = true)) (sd rfl (yl_pick_f rfl rfl (not_t (rfl : (([] : Str) == ([] : Str)) = true)) rfl (dn (CW.cond_f rfl rfl (CW.skip ?_))))))))
      refine bn (tn (CW.region (sd rfl (yl_inc rfl rfl rfl oM (sM rfl (dn ?_))))))
      have hB789 : B_i_Table_opsFor_0 p_0 p_1 k620 (x663) = .cont (x663) := by simp only [B_i_Table_opsFor_0, hb67, hb576, hb788, cL]
      exact ⟨p_0.Idxs.length - (k620 + 1), oM, k620 + 1, x663, A664, c665, u666, rfl, hlt762, oM, (sR rfl), (Box.ex q776 hE786), (RdS.ex gS q778 hE786), (RdS.ex gI q780 hE786), q787, (RdS.ex gS q782 hE786), y20, (Box.ex (Box.only (Box.ex hf756 hE769) hO772 oM) hE786), y18, (Ex.trans (Below.only (Ex.trans hf758 hE769) hO772 oM) hE786), oM, Bl, (loopM.cont hlt762 hB789).symm.trans hI747⟩
     ·refine sy rfl rfl (not_f hb788) (yM rfl rfl (sy rfl rfl (not_f hb788) (yM rfl rfl (sy rfl rfl (not_f hb788) (yl_sneq (a := (i_Table_idxKey p_0 ((p_0.Idxs.getD k620 d_Idx).Name) p_1.Old)) (b := ([] : Str)) rfl rfl rfl (sd rfl (yl_pick_t rfl rfl (not_f hb788) rfl (sM rfl (sy rfl rfl (not_f hb788) (yl_fieldAddr fd111_2 rfl rfl (sy rfl rfl (not_f hb788) (yl_load1 ty3 rfl rfl (((Box.ex hB771 hE786).cell 2).trans rfl) (sy rfl rfl (not_f hb788) (yC en86 rfl (oc rfl oz) (Cal.mono (c_i_deletes ((p_0.Idxs.getD k620 d_Idx).Stage)) ?_)))))))))))))))
      rintro v808 w807 ⟨rfl, hE809⟩
      have hE809z := Ex.size hE809
      refine sd rfl (yl_pick_t rfl rfl (not_f hb788) rfl (dn (bcase (i_deletes ((p_0.Idxs.getD k620 d_Idx).Stage)) (fun hb810 => ?_) (fun hb810 => ?_))))
      ·refine CW.cond_t rfl hb810 (CW.region (sM rfl (sM rfl (sd rfl (yl_build (cs := [.string (bs ((i_Table_idxKey p_0 ((p_0.Idxs.getD k620 d_Idx).Name) p_1.Old))), .string (bs (([] : Str))), .bool (false)]) rfl (oc rfl oz) (by kernel_rfl) (sd rfl (yl_callv (caps := [.pointer (some ⟨b31, 0, none⟩)]) en83 rfl rfl (oc rfl (oc rfl oz)) (Cal.of func83 rfl ntmps83 rfl (cR (sd rfl (yl_box rfl rfl rfl ?_)))))))))))
       intro b811 w812 hs813 hz814 hB815 hE816
       refine dn (CW.region ?_)
       have q821 := Box.ex (Box.ex (Box.ex (Box.only (Box.ex hf756 hE769) hO772 oM) hE786) hE809) hE816
       refine sd rfl (yl_load1 ty77 rfl rfl ((q821.cell 0).trans rfl) (sM rfl (sd rfl (yl_fieldAddr fd80_0 rfl rfl (sd rfl (yl_load1 ty9 rfl rfl ((hB815.cell 0).trans rfl) (sd rfl (yl_fieldAddr fd80_1 rfl rfl (sd rfl (yl_load1 ty9 rfl rfl ((hB815.cell 1).trans rfl) (sd rfl (yl_build (cs := [.int .i64 (3), .string (bs ((i_Table_idxKey p_0 ((p_0.Idxs.getD k620 d_Idx).Name) p_1.Old))), .string (bs (([] : Str))), .int .i64 (0)]) rfl (oc rfl (oc rfl (oc rfl oz))) (by kernel_rfl) (sd rfl (yl_buildSlice (cs := [.int .i64 (3), .string (bs ((i_Table_idxKey p_0 ((p_0.Idxs.getD k620 d_Idx).Name) p_1.Old))), .string (bs (([] : Str))), .int .i64 (0)]) un77 ty122 (by decide) rfl (oc rfl oz) (by kernel_rfl) ?_))))))))))))))
       intro b822 w823 hs824 hz825 hB826 hE827
       have hO828 : OwnL w823 b822 (b822 + 1) 122 4 (RF e_Op) (some ⟨b822, 0, none⟩) 1 1 (Y6_38 p_0 p_1 k620) := OwnL.of_box (S := fun _ => False) hB826 (Nat.le_refl _) (Nat.lt_succ_self _) (EncL.cons (c := [.int .i64 (3), .string (bs ((i_Table_idxKey p_0 ((p_0.Idxs.getD k620 d_Idx).Name) p_1.Old))), .string (bs (([] : Str))), .int .i64 (0)]) rfl rfl EncL.nil) (nb rfl) (fun h => h) (fun _ h => False.elim h)
       refine sd rfl (yl_appendL (S := (fun _ => False)) (lo := w552.heap.size) (hi := u666) (xs := x663) (ys := (Y6_38 p_0 p_1 k620)) good_Op un77 ty122 rfl (nb rfl) rfl rfl rfl (OwnL.ex good_Op (OwnL.ex good_Op (OwnL.ex good_Op y18 hE809) hE816) hE827) (EncL.cons (c := [.int .i64 (3), .string (bs ((i_Table_idxKey p_0 ((p_0.Idxs.getD k620 d_Idx).Name) p_1.Old))), .string (bs (([] : Str))), .int .i64 (0)]) rfl rfl EncL.nil) (Or.inr ⟨_, _, rfl, rfl, hB826.cells (o := 0) (n := 4) rfl⟩) rfl Bl Bl oM oM (fun _ h _ => False.elim h) oM ?_)
       intro A835 c836 w837 row838 hO839 hG840 hrg841
       have hG840z := hG840.size
       refine SeqR.u rfl rfl (yl_storeA (vs := [.slice A835 ((x663 ++ (Y6_38 p_0 p_1 k620)).length) c836]) ty77 rfl rfl rfl rfl rfl rfl (Box.grown (Box.ex q821 hE827) hG840 (hW hrg841)) rfl ?_)
       intro w844 hB845 hO846
       have hO846z := hO846.size
       refine SeqR.done (rn rfl .nil (dn (cR (sM rfl (sd rfl (yl_sneq (a := ([] : Str)) (b := ([] : Str)) rfl rfl rfl (sM rfl ?_)))))))
       refine sz rfl rfl (not_t (rfl : (([] : Str) == ([] : Str)) = true)) (sz rfl rfl (not_t (rfl : (([] : Str) == ([] : Str)) = true)) (sz rfl rfl (not_t (rfl : (([] : Str) == ([] : Str)) = true)) (sd rfl (yl_pick_f rfl rfl (not_t (rfl : (([] : Str) == ([] : Str)) = true)) rfl (dn (CW.cond_f rfl rfl (CW.skip (bn ?_))))))))
       refine tn (CW.region (sd rfl (yl_inc rfl rfl rfl oM (sM rfl (dn ?_)))))
       have hB847 : B_i_Table_opsFor_0 p_0 p_1 k620 (x663) = .cont ((x663 ++ (Y6_38 p_0 p_1 k620))) := by simp only [B_i_Table_opsFor_0, hb67, hb576, hb788, hb810, cL]
       exact ⟨p_0.Idxs.length - (k620 + 1), oM, k620 + 1, (x663 ++ (Y6_38 p_0 p_1 k620)), A835, c836, w837.heap.size, rfl, hlt762, oM, (sR rfl), (Box.only (Box.grown (Box.ex (Box.ex (Box.ex (Box.ex q776 hE786) hE809) hE816) hE827) hG840 (hW hrg841)) hO846 oM), (RdS.only gS (RdS.grown gS (RdS.ex gS (RdS.ex gS (RdS.ex gS (RdS.ex gS q778 hE786) hE809) hE816) hE827) hG840 (hV hrg841)) hO846 iV), (RdS.only gI (RdS.grown gI (RdS.ex gI (RdS.ex gI (RdS.ex gI (RdS.ex gI q780 hE786) hE809) hE816) hE827) hG840 (hV hrg841)) hO846 iV), (Box.only (Box.grown (Box.ex (Box.ex (Box.ex q787 hE809) hE816) hE827) hG840 (hW hrg841)) hO846 oM), (RdS.only gS (RdS.grown gS (RdS.ex gS (RdS.ex gS (RdS.ex gS (RdS.ex gS q782 hE786) hE809) hE816) hE827) hG840 (hV hrg841)) hO846 iV), (RdS.only gS (RdS.grown gS (RdS.ex gS (RdS.ex gS (RdS.ex gS y20 hE809) hE816) hE827) hG840 (hV hrg841)) hO846 iV), hB845, (OwnL.only good_Op hO839 hO846 oM), (Below.only (Below.grown (Ex.trans (Ex.trans (Ex.trans (Ex.trans (Below.only (Ex.trans hf758 hE769) hO772 oM) hE786) hE809) hE816) hE827) hG840 oM (hW hrg841)) hO846 oM), oM, Bl, (loopM.cont hlt762 hB847).symm.trans hI747⟩
      ·refine CW.cond_f rfl hb810 (CW.skip (tn (cR (sM rfl (sd rfl (yl_sneq (a := ([] : Str)) (b := ([] : Str)) rfl rfl rfl (sM rfl (sz rfl rfl (not_t (rfl : (([] : Str) == ([] : Str)) = true)) ?_))))))))
       refine sz rfl rfl (not_t (rfl : (([] : Str) == ([] : Str)) = true)) (sz rfl rfl (not_t (rfl : (([] : Str) == ([] : Str)) = true)) (sd rfl (yl_pick_f rfl rfl (not_t (rfl : (([] : Str) == ([] : Str)) = true)) rfl (dn (CW.cond_f rfl rfl (CW.skip (bn (tn ?_))))))))
       refine CW.region (sd rfl (yl_inc rfl rfl rfl oM (sM rfl (dn ?_))))
       have hB894 : B_i_Table_opsFor_0 p_0 p_1 k620 (x663) = .cont (x663) := by simp only [B_i_Table_opsFor_0, hb67, hb576, hb788, hb810, cL]
       exact ⟨p_0.Idxs.length - (k620 + 1), oM, k620 + 1, x663, A664, c665, u666, rfl, hlt762, oM, (sR rfl), (Box.ex (Box.ex q776 hE786) hE809), (RdS.ex gS (RdS.ex gS q778 hE786) hE809), (RdS.ex gI (RdS.ex gI q780 hE786) hE809), (Box.ex q787 hE809), (RdS.ex gS (RdS.ex gS q782 hE786) hE809), (RdS.ex gS y20 hE809), (Box.ex (Box.ex (Box.only (Box.ex hf756 hE769) hO772 oM) hE786) hE809), (OwnL.ex good_Op y18 hE809), (Ex.trans (Ex.trans (Below.only (Ex.trans hf758 hE769) hO772 oM) hE786) hE809), oM, Bl, (loopM.cont hlt762 hB894).symm.trans hI747⟩
    ·refine cR (sd rfl (yl_lss rfl rfl rfl (dn (CW.seq (CW.cond_f rfl (lt_f hlt762) (CW.exit (tx ?_)))))))
     refine tx ?_
     have hL920 : loopM (B_i_Table_opsFor_0 p_0 p_1) (p_0.Idxs.length - 0) 0 (((Y1_38 p_0 p_1) ++ (Y7_38 p_0 p_1))) = .done (x663) := hI747.symm.trans (loopM.stop hlt762)
     refine bx (tn (cR (sd rfl (yl_load1 ty77 rfl rfl ((hf756.cell 0).trans rfl) (sA rfl (dn (CW.ret ?_)))))))
     refine rr rfl (.cons rfl .nil) ?_
     rw [show (i_Table_opsFor p_0 p_1) = (x663) by simp only [i_Table_opsFor, hb67, hb576, hL920, cL]]
     exact ⟨A664, c665, w552.heap.size, u666, rfl, hf757, oM, hf758⟩
  ·refine CW.cond_t rfl (not_f hb576) (CW.region ?_)
   have q927 := Box.only (Box.grown (Box.ex (Box.ex (Box.only (Box.ex q502 hE532) hO537 oM) hE543) hE556) hG563 (hW hrg564)) hO569 oM
   refine sd rfl (yl_loadN ty39 rfl rfl (q927.cells (n := 3) rfl) rfl (sd rfl (yl_fieldAddr fd44_2 rfl rfl (sd rfl (yl_loadN ty42 rfl rfl (q575.cells (n := 1) rfl) rfl ?_)))))
   have q933 := RdS.only gS y22 hO569 iV
   have q939 := RdS.only gI y23 hO569 iV
   have q952 := RdS.ex gS (RdS.ex gS (RdS.only gS (RdS.ex gS (RdS.only gS y4 hO59 iV) hE532) hO537 iV) hE543) hE556
   have q954 := RdS.only gS (RdS.grown gS q952 hG563 (hV hrg564)) hO569 iV
   refine sd rfl (yC en84 rfl (oc rfl (oc rfl oz)) (Cal.mono (c_i_Table_rowWrite p_0 p_1.New (RdS.up q933 gS) (RdS.up q939 gI) (RdS.up q954 gS) o3 o6.2 Bo Bo (pre1.1 oM).2) ?_))
   rintro v956 w955 ⟨rfl, hE957⟩
   have hE957z := Ex.size hE957
   refine SeqR.u rfl rfl (yl_storeA (vs := [.string (bs ((i_Table_rowWrite p_0 p_1.New).Key)), .string (bs ((i_Table_rowWrite p_0 p_1.New).Val)), .bool ((i_Table_rowWrite p_0 p_1.New).Gone)]) ty80 rfl rfl rfl rfl rfl rfl (Box.ex (Box.only (Box.grown (Box.ex (Box.ex (Box.only (Box.ex hB58 hE532) hO537 oM) hE543) hE556) hG563 (hW hrg564)) hO569 oM) hE957) rfl ?_)
   intro w965 hB966 hO967
   have hO967z := hO967.size
   refine dn (CW.seq (cR (sd rfl (yl_fieldAddr fd44_0 rfl rfl ?_))))
   have q969 := Box.only (Box.ex q575 hE957) hO967 oM
   refine sd rfl (yl_load1 ty3 rfl rfl ((q969.cell 0).trans rfl) (dn (CW.block (cR (sd rfl (yl_eql rfl rfl rfl (sA rfl (SeqR.done ?_))))))))
   refine tn (CW.cond_f rfl hb67 (cR (sd rfl (yl_eql rfl rfl rfl (sA rfl (dn (CW.cond_f rfl hb576 ?_)))))))
   refine cR (sd rfl (yl_eql rfl rfl rfl (sA rfl (dn (CW.cond_t rfl (decide_eq_true oM) (CW.region (sM rfl ?_)))))))
   refine sd rfl (yl_loadN ty80 rfl rfl (hB966.cells (n := 3) rfl) rfl (sd rfl (yl_callv (caps := [.pointer (some ⟨b31, 0, none⟩)]) en83 rfl rfl (oc rfl (oc rfl oz)) (Cal.of func83 rfl ntmps83 rfl (cR (sd rfl (yl_box rfl rfl rfl ?_)))))))
   intro b970 w971 hs972 hz973 hB974 hE975
   refine dn (CW.region ?_)
   have q978 := Box.ex (Box.only (Box.ex hB568 hE957) hO967 oM) hE975
   refine sd rfl (yl_load1 ty77 rfl rfl ((q978.cell 0).trans rfl) (sM rfl (sd rfl (yl_fieldAddr fd80_0 rfl rfl (sd rfl (yl_load1 ty9 rfl rfl ((hB974.cell 0).trans rfl) (sd rfl (yl_fieldAddr fd80_1 rfl rfl (sd rfl (yl_load1 ty9 rfl rfl ((hB974.cell 1).trans rfl) (sd rfl (yl_build (cs := [.int .i64 (2), .string (bs ((i_Table_rowWrite p_0 p_1.New).Key)), .string (bs ((i_Table_rowWrite p_0 p_1.New).Val)), .int .i64 (0)]) rfl (oc rfl (oc rfl (oc rfl oz))) (by kernel_rfl) (sd rfl (yl_buildSlice (cs := [.int .i64 (2), .string (bs ((i_Table_rowWrite p_0 p_1.New).Key)), .string (bs ((i_Table_rowWrite p_0 p_1.New).Val)), .int .i64 (0)]) un77 ty122 (by decide) rfl (oc rfl oz) (by kernel_rfl) ?_))))))))))))))
   intro b979 w980 hs981 hz982 hB983 hE984
   have hO985 : OwnL w980 b979 (b979 + 1) 122 4 (RF e_Op) (some ⟨b979, 0, none⟩) 1 1 (Y2_38 p_0 p_1) := OwnL.of_box (S := fun _ => False) hB983 (Nat.le_refl _) (Nat.lt_succ_self _) (EncL.cons (c := [.int .i64 (2), .string (bs ((i_Table_rowWrite p_0 p_1.New).Key)), .string (bs ((i_Table_rowWrite p_0 p_1.New).Val)), .int .i64 (0)]) rfl rfl EncL.nil) (nb rfl) (fun h => h) (fun _ h => False.elim h)
   refine sd rfl (yl_appendL (S := (fun _ => False)) (lo := w552.heap.size) (hi := w560.heap.size) (xs := (Y1_38 p_0 p_1)) (ys := (Y2_38 p_0 p_1)) good_Op un77 ty122 rfl (nb rfl) rfl rfl rfl (OwnL.ex good_Op (OwnL.ex good_Op (OwnL.only good_Op (OwnL.ex good_Op (OwnL.only good_Op hO562 hO569 oM) hE957) hO967 oM) hE975) hE984) (EncL.cons (c := [.int .i64 (2), .string (bs ((i_Table_rowWrite p_0 p_1.New).Key)), .string (bs ((i_Table_rowWrite p_0 p_1.New).Val)), .int .i64 (0)]) rfl rfl EncL.nil) (Or.inr ⟨_, _, rfl, rfl, hB983.cells (o := 0) (n := 4) rfl⟩) rfl Bl Bl oM oM (fun _ h _ => False.elim h) oM ?_)
   intro A991 c992 w993 row994 hO995 hG996 hrg997
   have hG996z := hG996.size
   refine SeqR.u rfl rfl (yl_storeA (vs := [.slice A991 (((Y1_38 p_0 p_1) ++ (Y2_38 p_0 p_1)).length) c992]) ty77 rfl rfl rfl rfl rfl rfl (Box.grown (Box.ex q978 hE984) hG996 (hW hrg997)) rfl ?_)
   intro w1000 hB1001 hO1002
   have hO1002z := hO1002.size
   refine SeqR.done (rn rfl .nil (SeqR.done (bn (tn (CW.seq (cR (sd rfl (yl_fieldAddr fd39_2 rfl rfl ?_))))))))
   have q1008 := Box.only (Box.grown (Box.ex (Box.ex (Box.only (Box.ex q927 hE957) hO967 oM) hE975) hE984) hG996 (hW hrg997)) hO1002 oM
   refine sd rfl (yl_load1 ty37 rfl rfl ((q1008.cell 2).trans rfl) (sd rfl (yL un37 rfl rfl (sM rfl (dn (CW.block ?_))))))
   have q1202 := RdS.grown gS (RdS.ex gS (RdS.ex gS (RdS.only gS (RdS.ex gS y17 hE957) hO967 iV) hE975) hE984) hG996 (hV hrg997)
   have q1227 := Below.only (Ex.trans y21 hE957) hO967 oM
   refine CW.loop (fun m1173 L1174 w1175 => ∃ (k1009 : Nat) (x1169 : List DOp) (A1170 : Option Addr) (c1171 : Nat) (u1172 : Nat), m1173 = p_0.Idxs.length - k1009 ∧ k1009 ≤ p_0.Idxs.length ∧ w1000.heap.size ≤ w1175.heap.size ∧ Sub [(2, .pointer (some ⟨b12, 0, none⟩)), (3, .pointer (some ⟨b18, 0, none⟩)), (5, .pointer (some ⟨b31, 0, none⟩)), (6, .func (.func 83) #[] #[.pointer (some ⟨b31, 0, none⟩)]), (59, .slice A2 p_0.Idxs.length c2), (60, .int .i64 ((p_0.Idxs.length : Int))), (61, .int .i64 ((k1009 : Int)))] L1174 ∧ Box w1175 b12 39 [.string (bs (p_0.Name)), .slice A1 p_0.Cols.length c1, .slice A2 p_0.Idxs.length c2] ∧ RdS w1175 (Iv 0 w.heap.size) (RF e_Str) 1 A1 p_0.Cols.length c1 p_0.Cols ∧ RdS w1175 (Iv 0 w.heap.size) (RF e_Idx) 3 A2 p_0.Idxs.length c2 p_0.Idxs ∧ Box w1175 b18 44 [.int .i64 (p_1.Kind), .slice A4 p_1.Old.Vals.length c4, .slice A5 p_1.New.Vals.length c5] ∧ RdS w1175 (Iv 0 w.heap.size) (RF e_Str) 1 A4 p_1.Old.Vals.length c4 p_1.Old.Vals ∧ RdS w1175 (Iv 0 w.heap.size) (RF e_Str) 1 A5 p_1.New.Vals.length c5 p_1.New.Vals ∧ Box w1175 b31 77 [.slice A1170 x1169.length c1171] ∧ OwnL w1175 w552.heap.size u1172 122 4 (RF e_Op) A1170 x1169.length c1171 x1169 ∧ Ex w w1175 ∧ (w552.heap.size ≤ u1172 ∧ u1172 ≤ w1175.heap.size) ∧ x1169.length ≤ 0 + 1 + 1 + 3 * (k1009 - 0) ∧ loopM (B_i_Table_opsFor_0 p_0 p_1) (p_0.Idxs.length - k1009) k1009 (x1169) = loopM (B_i_Table_opsFor_0 p_0 p_1) (p_0.Idxs.length - 0) 0 (((Y1_38 p_0 p_1) ++ (Y2_38 p_0 p_1)))) (p_0.Idxs.length - 0) ?_ ?_
   ·exact ⟨0, ((Y1_38 p_0 p_1) ++ (Y2_38 p_0 p_1)), A991, c992, w993.heap.size, rfl, oM, Nat.le_refl _, (sR rfl), q1008, (RdS.only gS (RdS.grown gS (RdS.ex gS (RdS.ex gS (RdS.only gS (RdS.ex gS q933 hE957) hO967 iV) hE975) hE984) hG996 (hV hrg997)) hO1002 iV), (RdS.only gI (RdS.grown gI (RdS.ex gI (RdS.ex gI (RdS.only gI (RdS.ex gI q939 hE957) hO967 iV) hE975) hE984) hG996 (hV hrg997)) hO1002 iV), (Box.only (Box.grown (Box.ex (Box.ex q969 hE975) hE984) hG996 (hW hrg997)) hO1002 oM), (RdS.only gS q1202 hO1002 iV), (RdS.only gS (RdS.grown gS (RdS.ex gS (RdS.ex gS (RdS.only gS (RdS.ex gS q954 hE957) hO967 iV) hE975) hE984) hG996 (hV hrg997)) hO1002 iV), hB1001, (OwnL.only good_Op hO995 hO1002 oM), (Below.only (Below.grown (Ex.trans (Ex.trans q1227 hE975) hE984) hG996 oM (hW hrg997)) hO1002 oM), oM, (by first | (simp; done) | (first | omega | (simp only [lN, toS_length]; omega))), rfl⟩
   ·rintro m1232 L1233 w1234 ⟨k1009, x1169, A1170, c1171, u1172, rfl, hk1235, hsz1237, hl1238, hf1239, hf1240, hf1241, hf1242, hf1243, hf1244, hf1245, hf1246, hf1247, hu1248, hln1249, hI1236⟩
    refine CW.sub hl1238 ?_
    have hf1239z := Box.lt hf1239
    have hf1242z := Box.lt hf1242
    have hf1245z := Box.lt hf1245
    have hf1247z := Ex.size hf1247
    have hbg1250 := RdS.big hf1241
    rcases Nat.lt_or_ge k1009 p_0.Idxs.length with hlt1251 | hlt1251
    ·have hrd := actOf_round pre0 pre1 hlt1251
     refine cR (sd rfl (yl_lss rfl rfl rfl (dn (CW.seq (CW.cond_t rfl (lt_t hlt1251) (CW.skip (tn ?_)))))))
     refine CW.seq (CW.block (cR ?_))
     obtain ⟨_, _, _, eA1252, _, ebl1252, _, eR1252, eC1252⟩ := RdS.aD hf1241 d_Idx (i := k1009)
     obtain rfl := eR1252
     refine sd rfl (yl_ixN un37 ty111 rfl rfl rfl eA1252 (sd rfl (yl_loadN ty111 rfl rfl eC1252 rfl (sd rfl (yB ty111 (cs := [.string (bs (([] : Str))), .int .i64 (0), .int .i64 (0)]) rfl rfl ?_)))))
     intro b1253 w1254 hs1255 hz1256 hB1257 hE1258
     refine SeqR.u rfl rfl (yl_storeA (vs := [.string (bs ((p_0.Idxs.getD k1009 d_Idx).Name)), .int .i64 ((p_0.Idxs.getD k1009 d_Idx).Col), .int .i64 ((p_0.Idxs.getD k1009 d_Idx).Stage)]) ty111 rfl rfl rfl rfl rfl rfl hB1257 rfl ?_)
     intro w1259 hB1260 hO1261
     have hO1261z := hO1261.size
     refine dn (cR (sA rfl (sA rfl (dn (CW.seq ?_)))))
     refine cR (sd rfl (yl_fieldAddr fd44_0 rfl rfl ?_))
     have q1263 := Box.only (Box.ex hf1242 hE1258) hO1261 oM
     refine sd rfl (yl_load1 ty3 rfl rfl ((q1263.cell 0).trans rfl) (sd rfl (yl_neq rfl rfl rfl (dn (CW.cond_t rfl (not_f hb67) (CW.region ?_))))))
     have q1265 := Box.only (Box.ex hf1239 hE1258) hO1261 oM
     refine sd rfl (yl_loadN ty39 rfl rfl (q1265.cells (n := 3) rfl) rfl (sd rfl (yl_fieldAddr fd111_0 rfl rfl (sd rfl (yl_load1 ty9 rfl rfl ((hB1260.cell 0).trans rfl) (sd rfl (yl_fieldAddr fd44_1 rfl rfl (sd rfl (yl_loadN ty42 rfl rfl (q1263.cells (n := 1) rfl) rfl ?_)))))))))
     have q1267 := RdS.only gS (RdS.ex gS hf1240 hE1258) hO1261 iV
     have q1269 := RdS.only gI (RdS.ex gI hf1241 hE1258) hO1261 iV
     have q1271 := RdS.only gS (RdS.ex gS hf1243 hE1258) hO1261 iV
     refine sd rfl (yC en85 rfl (oc rfl (oc rfl (oc rfl oz))) (Cal.mono (c_i_Table_idxKey p_0 ((p_0.Idxs.getD k1009 d_Idx).Name) p_1.Old (RdS.up q1267 gS) (RdS.up q1269 gI) (RdS.up q1271 gS) o3 (okL.getD o3.2.2 ok_d_Idx _) o6.1 Bo Bo Bo (pre1.2 oM).2) ?_))
     rintro v1274 w1272 ⟨rfl, ho1273, hE1275⟩
     have hE1275z := Ex.size hE1275
     refine sA rfl (dn (CW.seq (cR (sd rfl (yl_fieldAddr fd44_0 rfl rfl ?_)))))
     have q1276 := Box.ex q1263 hE1275
     refine sd rfl (yl_load1 ty3 rfl rfl ((q1276.cell 0).trans rfl) (sd rfl (yl_neq rfl rfl rfl (dn (CW.cond_t rfl (not_f hb576) (CW.region ?_))))))
     have q1277 := Box.ex q1265 hE1275
     refine sd rfl (yl_loadN ty39 rfl rfl (q1277.cells (n := 3) rfl) rfl (sd rfl (yl_fieldAddr fd111_0 rfl rfl ?_)))
     have q1278 := Box.ex hB1260 hE1275
     refine sd rfl (yl_load1 ty9 rfl rfl ((q1278.cell 0).trans rfl) (sd rfl (yl_fieldAddr fd44_2 rfl rfl (sd rfl (yl_loadN ty42 rfl rfl (q1276.cells (n := 1) rfl) rfl ?_)))))
     have q1279 := RdS.ex gS q1267 hE1275
     have q1280 := RdS.ex gI q1269 hE1275
     have q1283 := RdS.ex gS (RdS.only gS (RdS.ex gS hf1244 hE1258) hO1261 iV) hE1275
     refine sd rfl (yC en85 rfl (oc rfl (oc rfl (oc rfl oz))) (Cal.mono (c_i_Table_idxKey p_0 ((p_0.Idxs.getD k1009 d_Idx).Name) p_1.New (RdS.up q1279 gS) (RdS.up q1280 gI) (RdS.up q1283 gS) o3 (okL.getD o3.2.2 ok_d_Idx _) o6.2 Bo Bo Bo (pre1.1 oM).2) ?_))
     rintro v1286 w1284 ⟨rfl, ho1285, hE1287⟩
     have hE1287z := Ex.size hE1287
     have y2 := Box.ex (Box.ex (Box.only (Box.ex hf1245 hE1258) hO1261 oM) hE1275) hE1287
     have y1 := Ex.trans (Ex.trans (Below.only (Ex.trans hf1247 hE1258) hO1261 oM) hE1275) hE1287
     have y0 := OwnL.ex good_Op (OwnL.ex good_Op (OwnL.only good_Op (OwnL.ex good_Op hf1246 hE1258) hO1261 oM) hE1275) hE1287
     refine sA rfl (dn (CW.seq (cR (sM rfl (sd rfl (yl_sneq (a := (i_Table_idxKey p_0 ((p_0.Idxs.getD k1009 d_Idx).Name) p_1.Old)) (b := ([] : Str)) rfl rfl rfl (sM rfl ?_)))))))
     refine bcase ((i_Table_idxKey p_0 ((p_0.Idxs.getD k1009 d_Idx).Name) p_1.Old) == ([] : Str)) (fun hb1288 => ?_) (fun hb1288 => ?_)
     ·refine sz rfl rfl (not_t hb1288) (sz rfl rfl (not_t hb1288) (sz rfl rfl (not_t hb1288) (sd rfl (yl_pick_f rfl rfl (not_t hb1288) rfl (sM rfl (sz rfl rfl rfl (sz rfl rfl rfl (sz rfl rfl rfl (sd rfl (yl_pick_f rfl rfl rfl rfl ?_))))))))))
      refine dn (CW.cond_f rfl rfl (CW.skip (tn (cR (sM rfl (sd rfl (yl_sneq (a := (i_Table_idxKey p_0 ((p_0.Idxs.getD k1009 d_Idx).Name) p_1.New)) (b := ([] : Str)) rfl rfl rfl ?_)))))))
      refine sM rfl (bcase ((i_Table_idxKey p_0 ((p_0.Idxs.getD k1009 d_Idx).Name) p_1.New) == ([] : Str)) (fun hb1289 => ?_) (fun hb1289 => ?_))
      ·refine sz rfl rfl (not_t hb1289) (sz rfl rfl (not_t hb1289) (sz rfl rfl (not_t hb1289) (sd rfl (yl_pick_f rfl rfl (not_t hb1289) rfl (dn (CW.cond_f rfl rfl (CW.skip (bn ?_))))))))
       refine tn (CW.region (sd rfl (yl_inc rfl rfl rfl oM (sM rfl (dn ?_)))))
       have hB1290 : B_i_Table_opsFor_0 p_0 p_1 k1009 (x1169) = .cont (x1169) := by simp only [B_i_Table_opsFor_0, hb67, hb576, hb1288, hb1289, cL]
       exact ⟨p_0.Idxs.length - (k1009 + 1), oM, k1009 + 1, x1169, A1170, c1171, u1172, rfl, hlt1251, oM, (sR rfl), (Box.ex q1277 hE1287), (RdS.ex gS q1279 hE1287), (RdS.ex gI q1280 hE1287), (Box.ex q1276 hE1287), (RdS.ex gS (RdS.ex gS q1271 hE1275) hE1287), (RdS.ex gS q1283 hE1287), y2, y0, y1, oM, Bl, (loopM.cont hlt1251 hB1290).symm.trans hI1236⟩
      ·refine sy rfl rfl (not_f hb1289) (yl_fieldAddr fd111_2 rfl rfl (sy rfl rfl (not_f hb1289) (yl_load1 ty3 rfl rfl (((Box.ex q1278 hE1287).cell 2).trans rfl) (sy rfl rfl (not_f hb1289) (yC en87 rfl (oc rfl oz) (Cal.mono (c_i_inserts ((p_0.Idxs.getD k1009 d_Idx).Stage)) ?_))))))
       rintro v1312 w1311 ⟨rfl, hE1313⟩
       have hE1313z := Ex.size hE1313
       refine sd rfl (yl_pick_t rfl rfl (not_f hb1289) rfl (dn (bcase (i_inserts ((p_0.Idxs.getD k1009 d_Idx).Stage)) (fun hb1314 => ?_) (fun hb1314 => ?_))))
       ·refine CW.cond_t rfl hb1314 (CW.region (sM rfl (sM rfl (sd rfl (yl_build (cs := [.string (bs ((i_Table_idxKey p_0 ((p_0.Idxs.getD k1009 d_Idx).Name) p_1.New))), .string (bs (([] : Str))), .bool (false)]) rfl (oc rfl oz) (by kernel_rfl) (sd rfl (yl_callv (caps := [.pointer (some ⟨b31, 0, none⟩)]) en83 rfl rfl (oc rfl (oc rfl oz)) (Cal.of func83 rfl ntmps83 rfl (cR (sd rfl (yl_box rfl rfl rfl ?_)))))))))))
        intro b1315 w1316 hs1317 hz1318 hB1319 hE1320
        refine dn (CW.region ?_)
        have q1326 := Box.ex (Box.ex y2 hE1313) hE1320
        refine sd rfl (yl_load1 ty77 rfl rfl ((q1326.cell 0).trans rfl) (sM rfl (sd rfl (yl_fieldAddr fd80_0 rfl rfl (sd rfl (yl_load1 ty9 rfl rfl ((hB1319.cell 0).trans rfl) (sd rfl (yl_fieldAddr fd80_1 rfl rfl (sd rfl (yl_load1 ty9 rfl rfl ((hB1319.cell 1).trans rfl) (sd rfl (yl_build (cs := [.int .i64 (2), .string (bs ((i_Table_idxKey p_0 ((p_0.Idxs.getD k1009 d_Idx).Name) p_1.New))), .string (bs (([] : Str))), .int .i64 (0)]) rfl (oc rfl (oc rfl (oc rfl oz))) (by kernel_rfl) (sd rfl (yl_buildSlice (cs := [.int .i64 (2), .string (bs ((i_Table_idxKey p_0 ((p_0.Idxs.getD k1009 d_Idx).Name) p_1.New))), .string (bs (([] : Str))), .int .i64 (0)]) un77 ty122 (by decide) rfl (oc rfl oz) (by kernel_rfl) ?_))))))))))))))
        intro b1327 w1328 hs1329 hz1330 hB1331 hE1332
        have hO1333 : OwnL w1328 b1327 (b1327 + 1) 122 4 (RF e_Op) (some ⟨b1327, 0, none⟩) 1 1 (Y0_38 p_0 p_1 k1009) := OwnL.of_box (S := fun _ => False) hB1331 (Nat.le_refl _) (Nat.lt_succ_self _) (EncL.cons (c := [.int .i64 (2), .string (bs ((i_Table_idxKey p_0 ((p_0.Idxs.getD k1009 d_Idx).Name) p_1.New))), .string (bs (([] : Str))), .int .i64 (0)]) rfl rfl EncL.nil) (nb rfl) (fun h => h) (fun _ h => False.elim h)
        refine sd rfl (yl_appendL (S := (fun _ => False)) (lo := w552.heap.size) (hi := u1172) (xs := x1169) (ys := (Y0_38 p_0 p_1 k1009)) good_Op un77 ty122 rfl (nb rfl) rfl rfl rfl (OwnL.ex good_Op (OwnL.ex good_Op (OwnL.ex good_Op y0 hE1313) hE1320) hE1332) (EncL.cons (c := [.int .i64 (2), .string (bs ((i_Table_idxKey p_0 ((p_0.Idxs.getD k1009 d_Idx).Name) p_1.New))), .string (bs (([] : Str))), .int .i64 (0)]) rfl rfl EncL.nil) (Or.inr ⟨_, _, rfl, rfl, hB1331.cells (o := 0) (n := 4) rfl⟩) rfl Bl Bl oM oM (fun _ h _ => False.elim h) oM ?_)
        intro A1341 c1342 w1343 row1344 hO1345 hG1346 hrg1347
        have hG1346z := hG1346.size
        refine SeqR.u rfl rfl (yl_storeA (vs := [.slice A1341 ((x1169 ++ (Y0_38 p_0 p_1 k1009)).length) c1342]) ty77 rfl rfl rfl rfl rfl rfl (Box.grown (Box.ex q1326 hE1332) hG1346 (hW hrg1347)) rfl ?_)
        intro w1350 hB1351 hO1352
        have hO1352z := hO1352.size
        refine SeqR.done (rn rfl .nil (SeqR.done (bn (tn (CW.region (sd rfl (yl_inc rfl rfl rfl oM (sM rfl (SeqR.done ?_)))))))))
        refine tn ?_
        have hB1353 : B_i_Table_opsFor_0 p_0 p_1 k1009 (x1169) = .cont ((x1169 ++ (Y0_38 p_0 p_1 k1009))) := by simp only [B_i_Table_opsFor_0, hb67, hb576, hb1288, hb1289, hb1314, cL]
        exact ⟨p_0.Idxs.length - (k1009 + 1), oM, k1009 + 1, (x1169 ++ (Y0_38 p_0 p_1 k1009)), A1341, c1342, w1343.heap.size, rfl, hlt1251, oM, (sR rfl), (Box.only (Box.grown (Box.ex (Box.ex (Box.ex (Box.ex q1277 hE1287) hE1313) hE1320) hE1332) hG1346 (hW hrg1347)) hO1352 oM), (RdS.only gS (RdS.grown gS (RdS.ex gS (RdS.ex gS (RdS.ex gS (RdS.ex gS q1279 hE1287) hE1313) hE1320) hE1332) hG1346 (hV hrg1347)) hO1352 iV), (RdS.only gI (RdS.grown gI (RdS.ex gI (RdS.ex gI (RdS.ex gI (RdS.ex gI q1280 hE1287) hE1313) hE1320) hE1332) hG1346 (hV hrg1347)) hO1352 iV), (Box.only (Box.grown (Box.ex (Box.ex (Box.ex (Box.ex q1276 hE1287) hE1313) hE1320) hE1332) hG1346 (hW hrg1347)) hO1352 oM), (RdS.only gS (RdS.grown gS (RdS.ex gS (RdS.ex gS (RdS.ex gS (RdS.ex gS (RdS.ex gS q1271 hE1275) hE1287) hE1313) hE1320) hE1332) hG1346 (hV hrg1347)) hO1352 iV), (RdS.only gS (RdS.grown gS (RdS.ex gS (RdS.ex gS (RdS.ex gS (RdS.ex gS q1283 hE1287) hE1313) hE1320) hE1332) hG1346 (hV hrg1347)) hO1352 iV), hB1351, (OwnL.only good_Op hO1345 hO1352 oM), (Below.only (Below.grown (Ex.trans (Ex.trans (Ex.trans y1 hE1313) hE1320) hE1332) hG1346 oM (hW hrg1347)) hO1352 oM), oM, Bl, (loopM.cont hlt1251 hB1353).symm.trans hI1236⟩
       ·refine CW.cond_f rfl hb1314 (CW.skip (bn (tn (CW.region (sd rfl (yl_inc rfl rfl rfl oM (sM rfl (dn ?_))))))))
        have hB1401 : B_i_Table_opsFor_0 p_0 p_1 k1009 (x1169) = .cont (x1169) := by simp only [B_i_Table_opsFor_0, hb67, hb576, hb1288, hb1289, hb1314, cL]
        exact ⟨p_0.Idxs.length - (k1009 + 1), oM, k1009 + 1, x1169, A1170, c1171, u1172, rfl, hlt1251, oM, (sR rfl), (Box.ex (Box.ex q1277 hE1287) hE1313), (RdS.ex gS (RdS.ex gS q1279 hE1287) hE1313), (RdS.ex gI (RdS.ex gI q1280 hE1287) hE1313), (Box.ex (Box.ex q1276 hE1287) hE1313), (RdS.ex gS (RdS.ex gS (RdS.ex gS q1271 hE1275) hE1287) hE1313), (RdS.ex gS (RdS.ex gS q1283 hE1287) hE1313), (Box.ex y2 hE1313), (OwnL.ex good_Op y0 hE1313), (Ex.trans y1 hE1313), oM, Bl, (loopM.cont hlt1251 hB1401).symm.trans hI1236⟩
     ·refine sy rfl rfl (not_f hb1288) (yM rfl rfl (sy rfl rfl (not_f hb1288) (yM rfl rfl (sy rfl rfl (not_f hb1288) (yl_sneq (a := (i_Table_idxKey p_0 ((p_0.Idxs.getD k1009 d_Idx).Name) p_1.Old)) (b := (i_Table_idxKey p_0 ((p_0.Idxs.getD k1009 d_Idx).Name) p_1.New)) rfl rfl rfl (sd rfl (yl_pick_t rfl rfl (not_f hb1288) rfl (sM rfl (bcase ((i_Table_idxKey p_0 ((p_0.Idxs.getD k1009 d_Idx).Name) p_1.Old) == (i_Table_idxKey p_0 ((p_0.Idxs.getD k1009 d_Idx).Name) p_1.New)) (fun hb1430 => ?_) (fun hb1430 => ?_))))))))))
      ·refine sz rfl rfl (not_t hb1430) (sz rfl rfl (not_t hb1430) (sz rfl rfl (not_t hb1430) (sd rfl (yl_pick_f rfl rfl (not_t hb1430) rfl (dn (CW.cond_f rfl rfl (CW.skip (tn ?_))))))))
       refine cR (sM rfl (sd rfl (yl_sneq (a := (i_Table_idxKey p_0 ((p_0.Idxs.getD k1009 d_Idx).Name) p_1.New)) (b := ([] : Str)) rfl rfl rfl (sM rfl (bcase ((i_Table_idxKey p_0 ((p_0.Idxs.getD k1009 d_Idx).Name) p_1.New) == ([] : Str)) (fun hb1431 => ?_) (fun hb1431 => ?_))))))
       ·refine sz rfl rfl (not_t hb1431) (sz rfl rfl (not_t hb1431) (sz rfl rfl (not_t hb1431) (sd rfl (yl_pick_f rfl rfl (not_t hb1431) rfl (dn (CW.cond_f rfl rfl (CW.skip (bn ?_))))))))
        refine tn (CW.region (sd rfl (yl_inc rfl rfl rfl oM (sM rfl (dn ?_)))))
        have hB1432 : B_i_Table_opsFor_0 p_0 p_1 k1009 (x1169) = .cont (x1169) := by simp only [B_i_Table_opsFor_0, hb67, hb576, hb1288, hb1430, hb1431, cL]
        exact ⟨p_0.Idxs.length - (k1009 + 1), oM, k1009 + 1, x1169, A1170, c1171, u1172, rfl, hlt1251, oM, (sR rfl), (Box.ex q1277 hE1287), (RdS.ex gS q1279 hE1287), (RdS.ex gI q1280 hE1287), (Box.ex q1276 hE1287), (RdS.ex gS (RdS.ex gS q1271 hE1275) hE1287), (RdS.ex gS q1283 hE1287), y2, y0, y1, oM, Bl, (loopM.cont hlt1251 hB1432).symm.trans hI1236⟩
       ·refine sy rfl rfl (not_f hb1431) (yl_fieldAddr fd111_2 rfl rfl (sy rfl rfl (not_f hb1431) (yl_load1 ty3 rfl rfl (((Box.ex q1278 hE1287).cell 2).trans rfl) (sy rfl rfl (not_f hb1431) (yC en87 rfl (oc rfl oz) (Cal.mono (c_i_inserts ((p_0.Idxs.getD k1009 d_Idx).Stage)) ?_))))))
        rintro v1454 w1453 ⟨rfl, hE1455⟩
        have hE1455z := Ex.size hE1455
        refine sd rfl (yl_pick_t rfl rfl (not_f hb1431) rfl (dn (bcase (i_inserts ((p_0.Idxs.getD k1009 d_Idx).Stage)) (fun hb1456 => ?_) (fun hb1456 => ?_))))
        ·refine CW.cond_t rfl hb1456 (CW.region (sM rfl (sM rfl (sd rfl (yl_build (cs := [.string (bs ((i_Table_idxKey p_0 ((p_0.Idxs.getD k1009 d_Idx).Name) p_1.New))), .string (bs (([] : Str))), .bool (false)]) rfl (oc rfl oz) (by kernel_rfl) (sd rfl (yl_callv (caps := [.pointer (some ⟨b31, 0, none⟩)]) en83 rfl rfl (oc rfl (oc rfl oz)) (Cal.of func83 rfl ntmps83 rfl (cR (sd rfl (yl_box rfl rfl rfl ?_)))))))))))
         intro b1457 w1458 hs1459 hz1460 hB1461 hE1462
         refine dn (CW.region ?_)
         have q1468 := Box.ex (Box.ex y2 hE1455) hE1462
         refine sd rfl (yl_load1 ty77 rfl rfl ((q1468.cell 0).trans rfl) (sM rfl (sd rfl (yl_fieldAddr fd80_0 rfl rfl (sd rfl (yl_load1 ty9 rfl rfl ((hB1461.cell 0).trans rfl) (sd rfl (yl_fieldAddr fd80_1 rfl rfl (sd rfl (yl_load1 ty9 rfl rfl ((hB1461.cell 1).trans rfl) (sd rfl (yl_build (cs := [.int .i64 (2), .string (bs ((i_Table_idxKey p_0 ((p_0.Idxs.getD k1009 d_Idx).Name) p_1.New))), .string (bs (([] : Str))), .int .i64 (0)]) rfl (oc rfl (oc rfl (oc rfl oz))) (by kernel_rfl) (sd rfl (yl_buildSlice (cs := [.int .i64 (2), .string (bs ((i_Table_idxKey p_0 ((p_0.Idxs.getD k1009 d_Idx).Name) p_1.New))), .string (bs (([] : Str))), .int .i64 (0)]) un77 ty122 (by decide) rfl (oc rfl oz) (by kernel_rfl) ?_))))))))))))))
         intro b1469 w1470 hs1471 hz1472 hB1473 hE1474
         have hO1475 : OwnL w1470 b1469 (b1469 + 1) 122 4 (RF e_Op) (some ⟨b1469, 0, none⟩) 1 1 (Y0_38 p_0 p_1 k1009) := OwnL.of_box (S := fun _ => False) hB1473 (Nat.le_refl _) (Nat.lt_succ_self _) (EncL.cons (c := [.int .i64 (2), .string (bs ((i_Table_idxKey p_0 ((p_0.Idxs.getD k1009 d_Idx).Name) p_1.New))), .string (bs (([] : Str))), .int .i64 (0)]) rfl rfl EncL.nil) (nb rfl) (fun h => h) (fun _ h => False.elim h)
         refine sd rfl (yl_appendL (S := (fun _ => False)) (lo := w552.heap.size) (hi := u1172) (xs := x1169) (ys := (Y0_38 p_0 p_1 k1009)) good_Op un77 ty122 rfl (nb rfl) rfl rfl rfl (OwnL.ex good_Op (OwnL.ex good_Op (OwnL.ex good_Op y0 hE1455) hE1462) hE1474) (EncL.cons (c := [.int .i64 (2), .string (bs ((i_Table_idxKey p_0 ((p_0.Idxs.getD k1009 d_Idx).Name) p_1.New))), .string (bs (([] : Str))), .int .i64 (0)]) rfl rfl EncL.nil) (Or.inr ⟨_, _, rfl, rfl, hB1473.cells (o := 0) (n := 4) rfl⟩) rfl Bl Bl oM oM (fun _ h _ => False.elim h) oM ?_)
         intro A1483 c1484 w1485 row1486 hO1487 hG1488 hrg1489
         have hG1488z := hG1488.size
         refine SeqR.u rfl rfl (yl_storeA (vs := [.slice A1483 ((x1169 ++ (Y0_38 p_0 p_1 k1009)).length) c1484]) ty77 rfl rfl rfl rfl rfl rfl (Box.grown (Box.ex q1468 hE1474) hG1488 (hW hrg1489)) rfl ?_)
         intro w1492 hB1493 hO1494
         have hO1494z := hO1494.size
         refine SeqR.done (rn rfl .nil (SeqR.done (bn (tn (CW.region (sd rfl (yl_inc rfl rfl rfl oM (sM rfl (SeqR.done ?_)))))))))
         refine tn ?_
         have hB1495 : B_i_Table_opsFor_0 p_0 p_1 k1009 (x1169) = .cont ((x1169 ++ (Y0_38 p_0 p_1 k1009))) := by simp only [B_i_Table_opsFor_0, hb67, hb576, hb1288, hb1430, hb1431, hb1456, cL]
         exact ⟨p_0.Idxs.length - (k1009 + 1), oM, k1009 + 1, (x1169 ++ (Y0_38 p_0 p_1 k1009)), A1483, c1484, w1485.heap.size, rfl, hlt1251, oM, (sR rfl), (Box.only (Box.grown (Box.ex (Box.ex (Box.ex (Box.ex q1277 hE1287) hE1455) hE1462) hE1474) hG1488 (hW hrg1489)) hO1494 oM), (RdS.only gS (RdS.grown gS (RdS.ex gS (RdS.ex gS (RdS.ex gS (RdS.ex gS q1279 hE1287) hE1455) hE1462) hE1474) hG1488 (hV hrg1489)) hO1494 iV), (RdS.only gI (RdS.grown gI (RdS.ex gI (RdS.ex gI (RdS.ex gI (RdS.ex gI q1280 hE1287) hE1455) hE1462) hE1474) hG1488 (hV hrg1489)) hO1494 iV), (Box.only (Box.grown (Box.ex (Box.ex (Box.ex (Box.ex q1276 hE1287) hE1455) hE1462) hE1474) hG1488 (hW hrg1489)) hO1494 oM), (RdS.only gS (RdS.grown gS (RdS.ex gS (RdS.ex gS (RdS.ex gS (RdS.ex gS (RdS.ex gS q1271 hE1275) hE1287) hE1455) hE1462) hE1474) hG1488 (hV hrg1489)) hO1494 iV), (RdS.only gS (RdS.grown gS (RdS.ex gS (RdS.ex gS (RdS.ex gS (RdS.ex gS q1283 hE1287) hE1455) hE1462) hE1474) hG1488 (hV hrg1489)) hO1494 iV), hB1493, (OwnL.only good_Op hO1487 hO1494 oM), (Below.only (Below.grown (Ex.trans (Ex.trans (Ex.trans y1 hE1455) hE1462) hE1474) hG1488 oM (hW hrg1489)) hO1494 oM), oM, Bl, (loopM.cont hlt1251 hB1495).symm.trans hI1236⟩
        ·refine CW.cond_f rfl hb1456 (CW.skip (bn (tn (CW.region (sd rfl (yl_inc rfl rfl rfl oM (sM rfl (dn ?_))))))))
         have hB1543 : B_i_Table_opsFor_0 p_0 p_1 k1009 (x1169) = .cont (x1169) := by simp only [B_i_Table_opsFor_0, hb67, hb576, hb1288, hb1430, hb1431, hb1456, cL]
         exact ⟨p_0.Idxs.length - (k1009 + 1), oM, k1009 + 1, x1169, A1170, c1171, u1172, rfl, hlt1251, oM, (sR rfl), (Box.ex (Box.ex q1277 hE1287) hE1455), (RdS.ex gS (RdS.ex gS q1279 hE1287) hE1455), (RdS.ex gI (RdS.ex gI q1280 hE1287) hE1455), (Box.ex (Box.ex q1276 hE1287) hE1455), (RdS.ex gS (RdS.ex gS (RdS.ex gS q1271 hE1275) hE1287) hE1455), (RdS.ex gS (RdS.ex gS q1283 hE1287) hE1455), (Box.ex y2 hE1455), (OwnL.ex good_Op y0 hE1455), (Ex.trans y1 hE1455), oM, Bl, (loopM.cont hlt1251 hB1543).symm.trans hI1236⟩
      ·refine sy rfl rfl (not_f hb1430) (yl_fieldAddr fd111_2 rfl rfl ?_)
       have q1572 := Box.ex q1278 hE1287
       refine sy rfl rfl (not_f hb1430) (yl_load1 ty3 rfl rfl ((q1572.cell 2).trans rfl) (sy rfl rfl (not_f hb1430) (yC en86 rfl (oc rfl oz) (Cal.mono (c_i_deletes ((p_0.Idxs.getD k1009 d_Idx).Stage)) ?_))))
       rintro v1574 w1573 ⟨rfl, hE1575⟩
       have hE1575z := Ex.size hE1575
       have y12 := RdS.ex gS (RdS.ex gS (RdS.ex gS q1271 hE1275) hE1287) hE1575
       refine sd rfl (yl_pick_t rfl rfl (not_f hb1430) rfl (dn (bcase (i_deletes ((p_0.Idxs.getD k1009 d_Idx).Stage)) (fun hb1576 => ?_) (fun hb1576 => ?_))))
       ·refine CW.cond_t rfl hb1576 (CW.region (sM rfl (sM rfl (sd rfl (yl_build (cs := [.string (bs ((i_Table_idxKey p_0 ((p_0.Idxs.getD k1009 d_Idx).Name) p_1.Old))), .string (bs (([] : Str))), .bool (false)]) rfl (oc rfl oz) (by kernel_rfl) (sd rfl (yl_callv (caps := [.pointer (some ⟨b31, 0, none⟩)]) en83 rfl rfl (oc rfl (oc rfl oz)) (Cal.of func83 rfl ntmps83 rfl (cR (sd rfl (yl_box rfl rfl rfl ?_)))))))))))
        intro b1577 w1578 hs1579 hz1580 hB1581 hE1582
        refine dn (CW.region ?_)
        have q1588 := Box.ex (Box.ex y2 hE1575) hE1582
        refine sd rfl (yl_load1 ty77 rfl rfl ((q1588.cell 0).trans rfl) (sM rfl (sd rfl (yl_fieldAddr fd80_0 rfl rfl (sd rfl (yl_load1 ty9 rfl rfl ((hB1581.cell 0).trans rfl) (sd rfl (yl_fieldAddr fd80_1 rfl rfl (sd rfl (yl_load1 ty9 rfl rfl ((hB1581.cell 1).trans rfl) (sd rfl (yl_build (cs := [.int .i64 (3), .string (bs ((i_Table_idxKey p_0 ((p_0.Idxs.getD k1009 d_Idx).Name) p_1.Old))), .string (bs (([] : Str))), .int .i64 (0)]) rfl (oc rfl (oc rfl (oc rfl oz))) (by kernel_rfl) (sd rfl (yl_buildSlice (cs := [.int .i64 (3), .string (bs ((i_Table_idxKey p_0 ((p_0.Idxs.getD k1009 d_Idx).Name) p_1.Old))), .string (bs (([] : Str))), .int .i64 (0)]) un77 ty122 (by decide) rfl (oc rfl oz) (by kernel_rfl) ?_))))))))))))))
        intro b1589 w1590 hs1591 hz1592 hB1593 hE1594
        have hO1595 : OwnL w1590 b1589 (b1589 + 1) 122 4 (RF e_Op) (some ⟨b1589, 0, none⟩) 1 1 (Y3_38 p_0 p_1 k1009) := OwnL.of_box (S := fun _ => False) hB1593 (Nat.le_refl _) (Nat.lt_succ_self _) (EncL.cons (c := [.int .i64 (3), .string (bs ((i_Table_idxKey p_0 ((p_0.Idxs.getD k1009 d_Idx).Name) p_1.Old))), .string (bs (([] : Str))), .int .i64 (0)]) rfl rfl EncL.nil) (nb rfl) (fun h => h) (fun _ h => False.elim h)
        refine sd rfl (yl_appendL (S := (fun _ => False)) (lo := w552.heap.size) (hi := u1172) (xs := x1169) (ys := (Y3_38 p_0 p_1 k1009)) good_Op un77 ty122 rfl (nb rfl) rfl rfl rfl (OwnL.ex good_Op (OwnL.ex good_Op (OwnL.ex good_Op y0 hE1575) hE1582) hE1594) (EncL.cons (c := [.int .i64 (3), .string (bs ((i_Table_idxKey p_0 ((p_0.Idxs.getD k1009 d_Idx).Name) p_1.Old))), .string (bs (([] : Str))), .int .i64 (0)]) rfl rfl EncL.nil) (Or.inr ⟨_, _, rfl, rfl, hB1593.cells (o := 0) (n := 4) rfl⟩) rfl Bl Bl oM oM (fun _ h _ => False.elim h) oM ?_)
        intro A1603 c1604 w1605 row1606 hO1607 hG1608 hrg1609
        have hG1608z := hG1608.size
        refine SeqR.u rfl rfl (yl_storeA (vs := [.slice A1603 ((x1169 ++ (Y3_38 p_0 p_1 k1009)).length) c1604]) ty77 rfl rfl rfl rfl rfl rfl (Box.grown (Box.ex q1588 hE1594) hG1608 (hW hrg1609)) rfl ?_)
        intro w1612 hB1613 hO1614
        have hO1614z := hO1614.size
        have y11 := Box.only (Box.grown (Box.ex (Box.ex (Box.ex (Box.ex q1276 hE1287) hE1575) hE1582) hE1594) hG1608 (hW hrg1609)) hO1614 oM
        have y10 := Box.only (Box.grown (Box.ex (Box.ex (Box.ex (Box.ex q1277 hE1287) hE1575) hE1582) hE1594) hG1608 (hW hrg1609)) hO1614 oM
        have y9 := Below.only (Below.grown (Ex.trans (Ex.trans (Ex.trans y1 hE1575) hE1582) hE1594) hG1608 oM (hW hrg1609)) hO1614 oM
        have y8 := RdS.only gS (RdS.grown gS (RdS.ex gS (RdS.ex gS (RdS.ex gS (RdS.ex gS q1283 hE1287) hE1575) hE1582) hE1594) hG1608 (hV hrg1609)) hO1614 iV
        have y7 := RdS.only gI (RdS.grown gI (RdS.ex gI (RdS.ex gI (RdS.ex gI (RdS.ex gI q1280 hE1287) hE1575) hE1582) hE1594) hG1608 (hV hrg1609)) hO1614 iV
        have y6 := RdS.only gS (RdS.grown gS (RdS.ex gS (RdS.ex gS (RdS.ex gS (RdS.ex gS q1279 hE1287) hE1575) hE1582) hE1594) hG1608 (hV hrg1609)) hO1614 iV
        have y3 := RdS.only gS (RdS.grown gS (RdS.ex gS (RdS.ex gS y12 hE1582) hE1594) hG1608 (hV hrg1609)) hO1614 iV
        refine SeqR.done (rn rfl .nil (dn (cR (sM rfl (sd rfl (yl_sneq (a := (i_Table_idxKey p_0 ((p_0.Idxs.getD k1009 d_Idx).Name) p_1.New)) (b := ([] : Str)) rfl rfl rfl (sM rfl ?_)))))))
        refine bcase ((i_Table_idxKey p_0 ((p_0.Idxs.getD k1009 d_Idx).Name) p_1.New) == ([] : Str)) (fun hb1615 => ?_) (fun hb1615 => ?_)
        ·refine sz rfl rfl (not_t hb1615) (sz rfl rfl (not_t hb1615) (sz rfl rfl (not_t hb1615) (sd rfl (yl_pick_f rfl rfl (not_t hb1615) rfl (dn (CW.cond_f rfl rfl (CW.skip (bn ?_))))))))
         refine tn (CW.region (sd rfl (yl_inc rfl rfl rfl oM (sM rfl (dn ?_)))))
         have hB1616 : B_i_Table_opsFor_0 p_0 p_1 k1009 (x1169) = .cont ((x1169 ++ (Y3_38 p_0 p_1 k1009))) := by simp only [B_i_Table_opsFor_0, hb67, hb576, hb1288, hb1430, hb1576, hb1615, cL]
         exact ⟨p_0.Idxs.length - (k1009 + 1), oM, k1009 + 1, (x1169 ++ (Y3_38 p_0 p_1 k1009)), A1603, c1604, w1605.heap.size, rfl, hlt1251, oM, (sR rfl), y10, y6, y7, y11, y3, y8, hB1613, (OwnL.only good_Op hO1607 hO1614 oM), y9, oM, Bl, (loopM.cont hlt1251 hB1616).symm.trans hI1236⟩
        ·refine sy rfl rfl (not_f hb1615) (yl_fieldAddr fd111_2 rfl rfl (sy rfl rfl (not_f hb1615) (yl_load1 ty3 rfl rfl (((Box.only (Box.grown (Box.ex (Box.ex (Box.ex q1572 hE1575) hE1582) hE1594) hG1608 (hW hrg1609)) hO1614 oM).cell 2).trans rfl) (sy rfl rfl (not_f hb1615) (yC en87 rfl (oc rfl oz) (Cal.mono (c_i_inserts ((p_0.Idxs.getD k1009 d_Idx).Stage)) ?_))))))
         rintro v1670 w1669 ⟨rfl, hE1671⟩
         have hE1671z := Ex.size hE1671
         refine sd rfl (yl_pick_t rfl rfl (not_f hb1615) rfl (dn (bcase (i_inserts ((p_0.Idxs.getD k1009 d_Idx).Stage)) (fun hb1672 => ?_) (fun hb1672 => ?_))))
         ·refine CW.cond_t rfl hb1672 (CW.region (sM rfl (sM rfl (sd rfl (yl_build (cs := [.string (bs ((i_Table_idxKey p_0 ((p_0.Idxs.getD k1009 d_Idx).Name) p_1.New))), .string (bs (([] : Str))), .bool (false)]) rfl (oc rfl oz) (by kernel_rfl) (sd rfl (yl_callv (caps := [.pointer (some ⟨b31, 0, none⟩)]) en83 rfl rfl (oc rfl (oc rfl oz)) (Cal.of func83 rfl ntmps83 rfl (cR (sd rfl (yl_box rfl rfl rfl ?_)))))))))))
          intro b1673 w1674 hs1675 hz1676 hB1677 hE1678
          refine dn (CW.region ?_)
          have q1680 := Box.ex (Box.ex hB1613 hE1671) hE1678
          refine sd rfl (yl_load1 ty77 rfl rfl ((q1680.cell 0).trans rfl) (sM rfl (sd rfl (yl_fieldAddr fd80_0 rfl rfl (sd rfl (yl_load1 ty9 rfl rfl ((hB1677.cell 0).trans rfl) (sd rfl (yl_fieldAddr fd80_1 rfl rfl (sd rfl (yl_load1 ty9 rfl rfl ((hB1677.cell 1).trans rfl) (sd rfl (yl_build (cs := [.int .i64 (2), .string (bs ((i_Table_idxKey p_0 ((p_0.Idxs.getD k1009 d_Idx).Name) p_1.New))), .string (bs (([] : Str))), .int .i64 (0)]) rfl (oc rfl (oc rfl (oc rfl oz))) (by kernel_rfl) (sd rfl (yl_buildSlice (cs := [.int .i64 (2), .string (bs ((i_Table_idxKey p_0 ((p_0.Idxs.getD k1009 d_Idx).Name) p_1.New))), .string (bs (([] : Str))), .int .i64 (0)]) un77 ty122 (by decide) rfl (oc rfl oz) (by kernel_rfl) ?_))))))))))))))
          intro b1681 w1682 hs1683 hz1684 hB1685 hE1686
          have hO1687 : OwnL w1682 b1681 (b1681 + 1) 122 4 (RF e_Op) (some ⟨b1681, 0, none⟩) 1 1 (Y0_38 p_0 p_1 k1009) := OwnL.of_box (S := fun _ => False) hB1685 (Nat.le_refl _) (Nat.lt_succ_self _) (EncL.cons (c := [.int .i64 (2), .string (bs ((i_Table_idxKey p_0 ((p_0.Idxs.getD k1009 d_Idx).Name) p_1.New))), .string (bs (([] : Str))), .int .i64 (0)]) rfl rfl EncL.nil) (nb rfl) (fun h => h) (fun _ h => False.elim h)
          refine sd rfl (yl_appendL (S := (fun _ => False)) (lo := w552.heap.size) (hi := w1605.heap.size) (xs := (x1169 ++ (Y3_38 p_0 p_1 k1009))) (ys := (Y0_38 p_0 p_1 k1009)) good_Op un77 ty122 rfl (nb rfl) rfl rfl rfl (OwnL.ex good_Op (OwnL.ex good_Op (OwnL.ex good_Op (OwnL.only good_Op hO1607 hO1614 oM) hE1671) hE1678) hE1686) (EncL.cons (c := [.int .i64 (2), .string (bs ((i_Table_idxKey p_0 ((p_0.Idxs.getD k1009 d_Idx).Name) p_1.New))), .string (bs (([] : Str))), .int .i64 (0)]) rfl rfl EncL.nil) (Or.inr ⟨_, _, rfl, rfl, hB1685.cells (o := 0) (n := 4) rfl⟩) rfl Bl Bl oM oM (fun _ h _ => False.elim h) oM ?_)
          intro A1692 c1693 w1694 row1695 hO1696 hG1697 hrg1698
          have hG1697z := hG1697.size
          refine SeqR.u rfl rfl (yl_storeA (vs := [.slice A1692 (((x1169 ++ (Y3_38 p_0 p_1 k1009)) ++ (Y0_38 p_0 p_1 k1009)).length) c1693]) ty77 rfl rfl rfl rfl rfl rfl (Box.grown (Box.ex q1680 hE1686) hG1697 (hW hrg1698)) rfl ?_)
          intro w1701 hB1702 hO1703
          have hO1703z := hO1703.size
          refine SeqR.done (rn rfl .nil (SeqR.done (bn (tn (CW.region (sd rfl (yl_inc rfl rfl rfl oM (sM rfl (SeqR.done ?_)))))))))
          refine tn ?_
          have hB1704 : B_i_Table_opsFor_0 p_0 p_1 k1009 (x1169) = .cont (((x1169 ++ (Y3_38 p_0 p_1 k1009)) ++ (Y0_38 p_0 p_1 k1009))) := by simp only [B_i_Table_opsFor_0, hb67, hb576, hb1288, hb1430, hb1576, hb1615, hb1672, cL]
          have q1725 := RdS.grown gS (RdS.ex gS (RdS.ex gS (RdS.ex gS y6 hE1671) hE1678) hE1686) hG1697 (hV hrg1698)
          have q1736 := RdS.grown gI (RdS.ex gI (RdS.ex gI (RdS.ex gI y7 hE1671) hE1678) hE1686) hG1697 (hV hrg1698)
          have q1759 := RdS.grown gS (RdS.ex gS (RdS.ex gS (RdS.ex gS y3 hE1671) hE1678) hE1686) hG1697 (hV hrg1698)
          have q1770 := RdS.grown gS (RdS.ex gS (RdS.ex gS (RdS.ex gS y8 hE1671) hE1678) hE1686) hG1697 (hV hrg1698)
          have q1786 := Below.only (Below.grown (Ex.trans (Ex.trans (Ex.trans y9 hE1671) hE1678) hE1686) hG1697 oM (hW hrg1698)) hO1703 oM
          exact ⟨p_0.Idxs.length - (k1009 + 1), oM, k1009 + 1, ((x1169 ++ (Y3_38 p_0 p_1 k1009)) ++ (Y0_38 p_0 p_1 k1009)), A1692, c1693, w1694.heap.size, rfl, hlt1251, oM, (sR rfl), (Box.only (Box.grown (Box.ex (Box.ex (Box.ex y10 hE1671) hE1678) hE1686) hG1697 (hW hrg1698)) hO1703 oM), (RdS.only gS q1725 hO1703 iV), (RdS.only gI q1736 hO1703 iV), (Box.only (Box.grown (Box.ex (Box.ex (Box.ex y11 hE1671) hE1678) hE1686) hG1697 (hW hrg1698)) hO1703 oM), (RdS.only gS q1759 hO1703 iV), (RdS.only gS q1770 hO1703 iV), hB1702, (OwnL.only good_Op hO1696 hO1703 oM), q1786, oM, Bl, (loopM.cont hlt1251 hB1704).symm.trans hI1236⟩
         ·refine CW.cond_f rfl hb1672 (CW.skip (bn (tn (CW.region (sd rfl (yl_inc rfl rfl rfl oM (sM rfl (dn ?_))))))))
          have hB1787 : B_i_Table_opsFor_0 p_0 p_1 k1009 (x1169) = .cont ((x1169 ++ (Y3_38 p_0 p_1 k1009))) := by simp only [B_i_Table_opsFor_0, hb67, hb576, hb1288, hb1430, hb1576, hb1615, hb1672, cL]
          exact ⟨p_0.Idxs.length - (k1009 + 1), oM, k1009 + 1, (x1169 ++ (Y3_38 p_0 p_1 k1009)), A1603, c1604, w1605.heap.size, rfl, hlt1251, oM, (sR rfl), (Box.ex y10 hE1671), (RdS.ex gS y6 hE1671), (RdS.ex gI y7 hE1671), (Box.ex y11 hE1671), (RdS.ex gS y3 hE1671), (RdS.ex gS y8 hE1671), (Box.ex hB1613 hE1671), (OwnL.ex good_Op (OwnL.only good_Op hO1607 hO1614 oM) hE1671), (Ex.trans y9 hE1671), oM, Bl, (loopM.cont hlt1251 hB1787).symm.trans hI1236⟩
       ·refine CW.cond_f rfl hb1576 (CW.skip (tn (cR (sM rfl (sd rfl (yl_sneq (a := (i_Table_idxKey p_0 ((p_0.Idxs.getD k1009 d_Idx).Name) p_1.New)) (b := ([] : Str)) rfl rfl rfl (sM rfl (bcase ((i_Table_idxKey p_0 ((p_0.Idxs.getD k1009 d_Idx).Name) p_1.New) == ([] : Str)) (fun hb1844 => ?_) (fun hb1844 => ?_)))))))))
        ·refine sz rfl rfl (not_t hb1844) (sz rfl rfl (not_t hb1844) (sz rfl rfl (not_t hb1844) (sd rfl (yl_pick_f rfl rfl (not_t hb1844) rfl (dn (CW.cond_f rfl rfl (CW.skip (bn ?_))))))))
         refine tn (CW.region (sd rfl (yl_inc rfl rfl rfl oM (sM rfl (dn ?_)))))
         have hB1845 : B_i_Table_opsFor_0 p_0 p_1 k1009 (x1169) = .cont (x1169) := by simp only [B_i_Table_opsFor_0, hb67, hb576, hb1288, hb1430, hb1576, hb1844, cL]
         exact ⟨p_0.Idxs.length - (k1009 + 1), oM, k1009 + 1, x1169, A1170, c1171, u1172, rfl, hlt1251, oM, (sR rfl), (Box.ex (Box.ex q1277 hE1287) hE1575), (RdS.ex gS (RdS.ex gS q1279 hE1287) hE1575), (RdS.ex gI (RdS.ex gI q1280 hE1287) hE1575), (Box.ex (Box.ex q1276 hE1287) hE1575), y12, (RdS.ex gS (RdS.ex gS q1283 hE1287) hE1575), (Box.ex y2 hE1575), (OwnL.ex good_Op y0 hE1575), (Ex.trans y1 hE1575), oM, Bl, (loopM.cont hlt1251 hB1845).symm.trans hI1236⟩
        ·refine sy rfl rfl (not_f hb1844) (yl_fieldAddr fd111_2 rfl rfl (sy rfl rfl (not_f hb1844) (yl_load1 ty3 rfl rfl (((Box.ex q1572 hE1575).cell 2).trans rfl) (sy rfl rfl (not_f hb1844) (yC en87 rfl (oc rfl oz) (Cal.mono (c_i_inserts ((p_0.Idxs.getD k1009 d_Idx).Stage)) ?_))))))
         rintro v1876 w1875 ⟨rfl, hE1877⟩
         have hE1877z := Ex.size hE1877
         refine sd rfl (yl_pick_t rfl rfl (not_f hb1844) rfl (dn (bcase (i_inserts ((p_0.Idxs.getD k1009 d_Idx).Stage)) (fun hb1878 => ?_) (fun hb1878 => ?_))))
         ·refine CW.cond_t rfl hb1878 (CW.region (sM rfl (sM rfl (sd rfl (yl_build (cs := [.string (bs ((i_Table_idxKey p_0 ((p_0.Idxs.getD k1009 d_Idx).Name) p_1.New))), .string (bs (([] : Str))), .bool (false)]) rfl (oc rfl oz) (by kernel_rfl) (sd rfl (yl_callv (caps := [.pointer (some ⟨b31, 0, none⟩)]) en83 rfl rfl (oc rfl (oc rfl oz)) (Cal.of func83 rfl ntmps83 rfl (cR (sd rfl (yl_box rfl rfl rfl ?_)))))))))))
          intro b1879 w1880 hs1881 hz1882 hB1883 hE1884
          refine dn (CW.region ?_)
          have q1891 := Box.ex (Box.ex (Box.ex y2 hE1575) hE1877) hE1884
          refine sd rfl (yl_load1 ty77 rfl rfl ((q1891.cell 0).trans rfl) (sM rfl (sd rfl (yl_fieldAddr fd80_0 rfl rfl (sd rfl (yl_load1 ty9 rfl rfl ((hB1883.cell 0).trans rfl) (sd rfl (yl_fieldAddr fd80_1 rfl rfl (sd rfl (yl_load1 ty9 rfl rfl ((hB1883.cell 1).trans rfl) (sd rfl (yl_build (cs := [.int .i64 (2), .string (bs ((i_Table_idxKey p_0 ((p_0.Idxs.getD k1009 d_Idx).Name) p_1.New))), .string (bs (([] : Str))), .int .i64 (0)]) rfl (oc rfl (oc rfl (oc rfl oz))) (by kernel_rfl) (sd rfl (yl_buildSlice (cs := [.int .i64 (2), .string (bs ((i_Table_idxKey p_0 ((p_0.Idxs.getD k1009 d_Idx).Name) p_1.New))), .string (bs (([] : Str))), .int .i64 (0)]) un77 ty122 (by decide) rfl (oc rfl oz) (by kernel_rfl) ?_))))))))))))))
          intro b1892 w1893 hs1894 hz1895 hB1896 hE1897
          have hO1898 : OwnL w1893 b1892 (b1892 + 1) 122 4 (RF e_Op) (some ⟨b1892, 0, none⟩) 1 1 (Y0_38 p_0 p_1 k1009) := OwnL.of_box (S := fun _ => False) hB1896 (Nat.le_refl _) (Nat.lt_succ_self _) (EncL.cons (c := [.int .i64 (2), .string (bs ((i_Table_idxKey p_0 ((p_0.Idxs.getD k1009 d_Idx).Name) p_1.New))), .string (bs (([] : Str))), .int .i64 (0)]) rfl rfl EncL.nil) (nb rfl) (fun h => h) (fun _ h => False.elim h)
          refine sd rfl (yl_appendL (S := (fun _ => False)) (lo := w552.heap.size) (hi := u1172) (xs := x1169) (ys := (Y0_38 p_0 p_1 k1009)) good_Op un77 ty122 rfl (nb rfl) rfl rfl rfl (OwnL.ex good_Op (OwnL.ex good_Op (OwnL.ex good_Op (OwnL.ex good_Op y0 hE1575) hE1877) hE1884) hE1897) (EncL.cons (c := [.int .i64 (2), .string (bs ((i_Table_idxKey p_0 ((p_0.Idxs.getD k1009 d_Idx).Name) p_1.New))), .string (bs (([] : Str))), .int .i64 (0)]) rfl rfl EncL.nil) (Or.inr ⟨_, _, rfl, rfl, hB1896.cells (o := 0) (n := 4) rfl⟩) rfl Bl Bl oM oM (fun _ h _ => False.elim h) oM ?_)
          intro A1907 c1908 w1909 row1910 hO1911 hG1912 hrg1913
          have hG1912z := hG1912.size
          refine SeqR.u rfl rfl (yl_storeA (vs := [.slice A1907 ((x1169 ++ (Y0_38 p_0 p_1 k1009)).length) c1908]) ty77 rfl rfl rfl rfl rfl rfl (Box.grown (Box.ex q1891 hE1897) hG1912 (hW hrg1913)) rfl ?_)
          intro w1916 hB1917 hO1918
          have hO1918z := hO1918.size
          refine SeqR.done (rn rfl .nil (SeqR.done (bn (tn (CW.region (sd rfl (yl_inc rfl rfl rfl oM (sM rfl (SeqR.done ?_)))))))))
          refine tn ?_
          have hB1919 : B_i_Table_opsFor_0 p_0 p_1 k1009 (x1169) = .cont ((x1169 ++ (Y0_38 p_0 p_1 k1009))) := by simp only [B_i_Table_opsFor_0, hb67, hb576, hb1288, hb1430, hb1576, hb1844, hb1878, cL]
          exact ⟨p_0.Idxs.length - (k1009 + 1), oM, k1009 + 1, (x1169 ++ (Y0_38 p_0 p_1 k1009)), A1907, c1908, w1909.heap.size, rfl, hlt1251, oM, (sR rfl), (Box.only (Box.grown (Box.ex (Box.ex (Box.ex (Box.ex (Box.ex q1277 hE1287) hE1575) hE1877) hE1884) hE1897) hG1912 (hW hrg1913)) hO1918 oM), (RdS.only gS (RdS.grown gS (RdS.ex gS (RdS.ex gS (RdS.ex gS (RdS.ex gS (RdS.ex gS q1279 hE1287) hE1575) hE1877) hE1884) hE1897) hG1912 (hV hrg1913)) hO1918 iV), (RdS.only gI (RdS.grown gI (RdS.ex gI (RdS.ex gI (RdS.ex gI (RdS.ex gI (RdS.ex gI q1280 hE1287) hE1575) hE1877) hE1884) hE1897) hG1912 (hV hrg1913)) hO1918 iV), (Box.only (Box.grown (Box.ex (Box.ex (Box.ex (Box.ex (Box.ex q1276 hE1287) hE1575) hE1877) hE1884) hE1897) hG1912 (hW hrg1913)) hO1918 oM), (RdS.only gS (RdS.grown gS (RdS.ex gS (RdS.ex gS (RdS.ex gS y12 hE1877) hE1884) hE1897) hG1912 (hV hrg1913)) hO1918 iV), (RdS.only gS (RdS.grown gS (RdS.ex gS (RdS.ex gS (RdS.ex gS (RdS.ex gS (RdS.ex gS q1283 hE1287) hE1575) hE1877) hE1884) hE1897) hG1912 (hV hrg1913)) hO1918 iV), hB1917, (OwnL.only good_Op hO1911 hO1918 oM), (Below.only (Below.grown (Ex.trans (Ex.trans (Ex.trans (Ex.trans y1 hE1575) hE1877) hE1884) hE1897) hG1912 oM (hW hrg1913)) hO1918 oM), oM, Bl, (loopM.cont hlt1251 hB1919).symm.trans hI1236⟩
         ·refine CW.cond_f rfl hb1878 (CW.skip (bn (tn (CW.region (sd rfl (yl_inc rfl rfl rfl oM (sM rfl (dn ?_))))))))
          have hB1974 : B_i_Table_opsFor_0 p_0 p_1 k1009 (x1169) = .cont (x1169) := by simp only [B_i_Table_opsFor_0, hb67, hb576, hb1288, hb1430, hb1576, hb1844, hb1878, cL]
          exact ⟨p_0.Idxs.length - (k1009 + 1), oM, k1009 + 1, x1169, A1170, c1171, u1172, rfl, hlt1251, oM, (sR rfl), (Box.ex (Box.ex (Box.ex q1277 hE1287) hE1575) hE1877), (RdS.ex gS (RdS.ex gS (RdS.ex gS q1279 hE1287) hE1575) hE1877), (RdS.ex gI (RdS.ex gI (RdS.ex gI q1280 hE1287) hE1575) hE1877), (Box.ex (Box.ex (Box.ex q1276 hE1287) hE1575) hE1877), (RdS.ex gS y12 hE1877), (RdS.ex gS (RdS.ex gS (RdS.ex gS q1283 hE1287) hE1575) hE1877), (Box.ex (Box.ex y2 hE1575) hE1877), (OwnL.ex good_Op (OwnL.ex good_Op y0 hE1575) hE1877), (Ex.trans (Ex.trans y1 hE1575) hE1877), oM, Bl, (loopM.cont hlt1251 hB1974).symm.trans hI1236⟩
    ·refine cR (sd rfl (yl_lss rfl rfl rfl (dn (CW.seq (CW.cond_f rfl (lt_f hlt1251) (CW.exit (tx ?_)))))))
     refine tx ?_
     have hL2012 : loopM (B_i_Table_opsFor_0 p_0 p_1) (p_0.Idxs.length - 0) 0 (((Y1_38 p_0 p_1) ++ (Y2_38 p_0 p_1))) = .done (x1169) := hI1236.symm.trans (loopM.stop hlt1251)
     refine bx (tn (cR (sd rfl (yl_load1 ty77 rfl rfl ((hf1245.cell 0).trans rfl) (sA rfl (dn (CW.ret ?_)))))))
     refine rr rfl (.cons rfl .nil) ?_
     rw [show (i_Table_opsFor p_0 p_1) = (x1169) by simp only [i_Table_opsFor, hb67, hb576, hL2012, cL]]
     exact ⟨A1170, c1171, w552.heap.size, u1172, rfl, hf1246, oM, hf1247⟩
theorem c_i_DoAct {A1 : Option Addr} {c1 : Nat} {A2 : Option Addr} {c2 : Nat} {A4 : Option Addr} {c4 : Nat} {A6 : Option Addr} {c6 : Nat} {A7 : Option Addr} {c7 : Nat} {w : World} (p_t : DTable) (ps : List DWrite) (p_a : DRowAct) (h1 : RdS w (Iv 0 w.heap.size) (RF e_Str) 1 A1 p_t.Cols.length c1 p_t.Cols) (h2 : RdS w (Iv 0 w.heap.size) (RF e_Idx) 3 A2 p_t.Idxs.length c2 p_t.Idxs) (h4 : RdS w (Iv 0 w.heap.size) (RF e_Write) 3 A4 ps.length c4 ps) (h6 : RdS w (Iv 0 w.heap.size) (RF e_Str) 1 A6 p_a.Old.Vals.length c6 p_a.Old.Vals) (h7 : RdS w (Iv 0 w.heap.size) (RF e_Str) 1 A7 p_a.New.Vals.length c7 p_a.New.Vals) (o3 : ok_Table p_t) (o5 : (okL ok_Write) ps) (o8 : ok_RowAct p_a) (hgb : GT 4 5 1 w) : Cal Tryz.prog 14 #[.agg #[.string (bs (p_t.Name)), .slice A1 p_t.Cols.length c1, .slice A2 p_t.Idxs.length c2], .slice A4 ps.length c4, .agg #[.int .i64 (p_a.Kind), .slice A6 p_a.Old.Vals.length c6, .slice A7 p_a.New.Vals.length c7]] w fun v w' => ∃ A_1 c_1 lo_1 hi_1, v = .tuple #[.slice A_1 (((i_DoAct p_t ps p_a).1).length) c_1, .bool ((i_DoAct p_t ps p_a).2.1), .bool ((i_DoAct p_t ps p_a).2.2)] ∧ OwnL w' lo_1 hi_1 80 3 (RF e_Write) A_1 (((i_DoAct p_t ps p_a).1).length) c_1 ((i_DoAct p_t ps p_a).1) ∧ (okL ok_Write) ((i_DoAct p_t ps p_a).1) ∧ (w.heap.size ≤ lo_1 ∧ lo_1 ≤ hi_1 ∧ hi_1 ≤ w'.heap.size) ∧ Ex w w' := by
 have hol9 : p_t.Name.length ≤ 1073741824 := o3.1
 have hol10 := o3.2.1.1
 have hol11 := o3.2.2.1
 have hol12 := o5.1
 have hol13 := o8.1.1
 have hol14 := o8.2.1
 refine Cal.of func14 rfl ntmps14 rfl (cR (sd rfl (yl_box rfl rfl rfl ?_)))
 intro b15 w16 hs17 hz18 hB19 hE20
 refine sd rfl (yl_box rfl rfl rfl ?_)
 intro b21 w22 hs23 hz24 hB25 hE26
 refine sA rfl (sA rfl (sA rfl (dn (CW.seq (cR ?_)))))
 have q27 := Box.ex hB19 hE26
 refine sd rfl (yl_loadN ty39 rfl rfl (q27.cells (n := 3) rfl) rfl (sd rfl (yl_loadN ty44 rfl rfl (hB25.cells (n := 3) rfl) rfl ?_)))
 have q29 := RdS.ex gS (RdS.ex gS h1 hE20) hE26
 have q31 := RdS.ex gI (RdS.ex gI h2 hE20) hE26
 have q33 := RdS.ex gS (RdS.ex gS h6 hE20) hE26
 have q35 := RdS.ex gS (RdS.ex gS h7 hE20) hE26
 refine sd rfl (yC en46 rfl (oc rfl (oc rfl oz)) (Cal.mono (c_i_GoodAct p_t p_a (RdS.up q29 gS) (RdS.up q31 gI) (RdS.up q33 gS) (RdS.up q35 gS) o3 o8) ?_))
 rintro v37 w36 ⟨rfl, hE38⟩
 have hE38z := Ex.size hE38
 refine sd rfl (yl_not rfl rfl (sM rfl (bcase (i_GoodAct p_t p_a) (fun hb39 => ?_) (fun hb39 => ?_))))
 ·refine sy rfl rfl (not_t hb39) (yM rfl rfl ?_)
  have q42 := RdS.ex gW (RdS.ex gW (RdS.ex gW h4 hE20) hE26) hE38
  refine sy rfl rfl (not_t hb39) (yC en47 rfl (oc rfl oz) (Cal.mono (c_i_isRows ps (RdS.up q42 gW) o5) ?_))
  rintro v44 w43 ⟨rfl, hE45⟩
  have hE45z := Ex.size hE45
  refine sy rfl rfl (not_t hb39) (yl_not rfl rfl (sd rfl (yl_pick_f rfl rfl (not_t hb39) rfl (dn (bcase (i_isRows ps) (fun hb46 => ?_) (fun hb46 => ?_))))))
  ·have hb46p := isRows_len hb46
   refine CW.cond_f rfl (not_t hb46) (CW.skip (tn (cR (sM rfl (sd rfl (yl_loadN ty39 rfl rfl ((Box.ex (Box.ex q27 hE38) hE45).cells (n := 3) rfl) rfl (sd rfl (yl_loadN ty44 rfl rfl ((Box.ex (Box.ex hB25 hE38) hE45).cells (n := 3) rfl) rfl (sd rfl (yC en49 rfl (oc rfl (oc rfl oz)) (Cal.mono (c_i_Table_opsFor p_t p_a (RdS.up (RdS.ex gS (RdS.ex gS q29 hE38) hE45) gS) (RdS.up (RdS.ex gI (RdS.ex gI q31 hE38) hE45) gI) (RdS.up (RdS.ex gS (RdS.ex gS q33 hE38) hE45) gS) (RdS.up (RdS.ex gS (RdS.ex gS q35 hE38) hE45) gS) o3 o8 (f_i_GoodAct hb39).1 (f_i_GoodAct hb39).2 (kind_GoodAct hb39)) ?_)))))))))))
   rintro v61 w59 ⟨A60, c60, lo60, hi60, rfl, h60, hrn63, hE62⟩
   have hE62z := Ex.size hE62
   have q71 := Ex.trans (Ex.trans (Ex.trans (Ex.trans (Ex.trans (Ex.refl w) hE20) hE26) hE38) hE45) hE62
   refine sd rfl (yC en48 rfl (oc rfl (oc rfl oz)) (Cal.mono (c_i_runOps ps (i_Table_opsFor p_t p_a) (RdS.up (RdS.ex gW (RdS.ex gW q42 hE45) hE62) gW) (RdS.up (OwnL.rd good_Op h60) good_Op) o5 (ok_opsFor hb39) oM (noadd_opsFor hb39) (len_opsFor hb39) (hgb.ex q71)) ?_))
   rintro v75 w72 ⟨A73, c73, lo73, hi73, rfl, h73, ho74, hrn77, hE76⟩
   have hE76z := Ex.size hE76
   refine sM rfl (sd rfl (yl_extract rfl rfl rfl (sd rfl (yl_extract rfl rfl rfl (sA rfl (sA rfl (dn (cR ?_))))))))
   refine sM rfl (sM rfl (sA rfl (sA rfl (sA rfl (dn (CW.ret (rr rfl (.cons rfl (.cons rfl (.cons rfl .nil))) ?_)))))))
   rw [show (i_DoAct p_t ps p_a) = (((i_runOps ps (i_Table_opsFor p_t p_a)).1, (i_runOps ps (i_Table_opsFor p_t p_a)).2, true)) by simp only [i_DoAct, hb39, hb46, cL]]
   exact ⟨A73, c73, lo73, hi73, rfl, h73, ho74, oM, (Ex.trans q71 hE76)⟩
  ·refine CW.cond_t rfl (not_f hb46) (cR (sA rfl (sA rfl (sA rfl (dn (CW.ret ?_))))))
   refine tr (rr rfl (.cons rfl (.cons rfl (.cons rfl .nil))) ?_)
   rw [show (i_DoAct p_t ps p_a) = ((([] : List DWrite), false, false)) by simp only [i_DoAct, hb39, hb46, cL]]
   exact ⟨none, 0, w43.heap.size, w43.heap.size, rfl, (OwnL.nil _ _ _ _ _ _), (okL.nil _), oM, (Ex.trans (Ex.trans (Ex.trans (Ex.trans (Ex.refl w) hE20) hE26) hE38) hE45)⟩
 ·refine sz rfl rfl (not_f hb39) (sz rfl rfl (not_f hb39) (sz rfl rfl (not_f hb39) (sd rfl (yl_pick_t rfl rfl (not_f hb39) rfl (dn (CW.cond_t rfl rfl (cR ?_)))))))
  refine sA rfl (sA rfl (sA rfl (dn (CW.ret (tr (rr rfl (.cons rfl (.cons rfl (.cons rfl .nil))) ?_))))))
  rw [show (i_DoAct p_t ps p_a) = ((([] : List DWrite), false, false)) by simp only [i_DoAct, hb39, cL]]
  exact ⟨none, 0, w36.heap.size, w36.heap.size, rfl, (OwnL.nil _ _ _ _ _ _), (okL.nil _), oM, (Ex.trans (Ex.trans (Ex.trans (Ex.refl w) hE20) hE26) hE38)⟩
theorem c_l_eqWrite {w : World} (p_a : DWrite) (p_b : DWrite) : Cal Tryz.prog 50 #[.agg #[.string (bs (p_a.Key)), .string (bs (p_a.Val)), .bool (p_a.Gone)], .agg #[.string (bs (p_b.Key)), .string (bs (p_b.Val)), .bool (p_b.Gone)]] w fun v w' => v = .bool ((l_eqWrite p_a p_b)) ∧ Ex w w' := by
 refine Cal.of func50 rfl ntmps50 rfl (cR (sd rfl (yl_box rfl rfl rfl ?_)))
 intro b1 w2 hs3 hz4 hB5 hE6
 refine sd rfl (yl_box rfl rfl rfl ?_)
 intro b7 w8 hs9 hz10 hB11 hE12
 refine sA rfl (dn (CW.seq (cR (sd rfl (yl_fieldAddr fd80_0 rfl rfl ?_)))))
 have q13 := Box.ex hB5 hE12
 refine sd rfl (yl_load1 ty9 rfl rfl ((q13.cell 0).trans rfl) (sd rfl (yl_fieldAddr fd80_0 rfl rfl (sd rfl (yl_load1 ty9 rfl rfl ((hB11.cell 0).trans rfl) (sd rfl (yl_sneq (a := p_a.Key) (b := p_b.Key) rfl rfl rfl (dn (bcase (p_a.Key == p_b.Key) (fun hb14 => ?_) (fun hb14 => ?_))))))))))
 ·refine CW.cond_f rfl (not_t hb14) (CW.skip (tn (CW.seq (cR (sd rfl (yl_fieldAddr fd80_1 rfl rfl (sd rfl (yl_load1 ty9 rfl rfl ((q13.cell 1).trans rfl) (sd rfl (yl_fieldAddr fd80_1 rfl rfl ?_))))))))))
  refine sd rfl (yl_load1 ty9 rfl rfl ((hB11.cell 1).trans rfl) (sd rfl (yl_sneq (a := p_a.Val) (b := p_b.Val) rfl rfl rfl (dn (bcase (p_a.Val == p_b.Val) (fun hb15 => ?_) (fun hb15 => ?_))))))
  ·refine CW.cond_f rfl (not_t hb15) (CW.skip (tn (CW.seq (cR (sd rfl (yl_fieldAddr fd80_2 rfl rfl (sd rfl (yl_load1 ty4 rfl rfl ((q13.cell 2).trans rfl) (sd rfl (yl_fieldAddr fd80_2 rfl rfl ?_))))))))))
   refine sd rfl (yl_load1 ty4 rfl rfl ((hB11.cell 2).trans rfl) (sd rfl (yl_bneq un4 rfl rfl rfl (dn (bcase (p_a.Gone == p_b.Gone) (fun hb16 => ?_) (fun hb16 => ?_))))))
   ·refine CW.cond_f rfl (not_t hb16) (CW.skip (tn (cR (sA rfl (dn (CW.ret ?_))))))
    refine rr rfl (.cons rfl .nil) ?_
    rw [show (l_eqWrite p_a p_b) = (true) by simp only [l_eqWrite, hb14, hb15, hb16, cL]]
    exact ⟨rfl, (Ex.trans (Ex.trans (Ex.refl w) hE6) hE12)⟩
   ·refine CW.cond_t rfl (not_f hb16) (cR (sA rfl (dn (CW.ret (tr (rr rfl (.cons rfl .nil) ?_))))))
    rw [show (l_eqWrite p_a p_b) = (false) by simp only [l_eqWrite, hb14, hb15, hb16, cL]]
    exact ⟨rfl, (Ex.trans (Ex.trans (Ex.refl w) hE6) hE12)⟩
  ·refine CW.cond_t rfl (not_f hb15) (cR (sA rfl (dn (CW.ret (tr (rr rfl (.cons rfl .nil) ?_))))))
   rw [show (l_eqWrite p_a p_b) = (false) by simp only [l_eqWrite, hb14, hb15, cL]]
   exact ⟨rfl, (Ex.trans (Ex.trans (Ex.refl w) hE6) hE12)⟩
 ·refine CW.cond_t rfl (not_f hb14) (cR (sA rfl (dn (CW.ret (tr (rr rfl (.cons rfl .nil) ?_))))))
  rw [show (l_eqWrite p_a p_b) = (false) by simp only [l_eqWrite, hb14, cL]]
  exact ⟨rfl, (Ex.trans (Ex.trans (Ex.refl w) hE6) hE12)⟩
theorem c_l_eqWriteS {A1 : Option Addr} {c1 : Nat} {A2 : Option Addr} {c2 : Nat} {w : World} (p_a : List DWrite) (p_b : List DWrite) (h1 : RdS w (Iv 0 w.heap.size) (RF e_Write) 3 A1 p_a.length c1 p_a) (h2 : RdS w (Iv 0 w.heap.size) (RF e_Write) 3 A2 p_b.length c2 p_b) : Cal Tryz.prog 15 #[.slice A1 p_a.length c1, .slice A2 p_b.length c2] w fun v w' => v = .bool ((l_eqWriteS p_a p_b)) ∧ Ex w w' := by
 refine Cal.of func15 rfl ntmps15 rfl (cR (sA rfl (dn (CW.seq (cR ?_)))))
 refine sM rfl (sd rfl (yL un34 rfl rfl (sM rfl (sd rfl (yL un34 rfl rfl (sd rfl (yl_neq rfl rfl rfl (dn (bcD (q := (p_a.length : Int) = (p_b.length : Int)) (fun hb3 hb3p => ?_) (fun hb3 hb3p => ?_))))))))))
 ·refine CW.cond_f rfl (not_t hb3) (CW.skip (tn (CW.seq (cR (sA rfl (dn ?_))))))
  refine CW.block (CW.loop (fun m5 L6 w7 => ∃ (k4 : Nat), m5 = p_a.length - k4 ∧ k4 ≤ p_a.length ∧ w.heap.size ≤ w7.heap.size ∧ Sub [(0, .slice A1 p_a.length c1), (1, .slice A2 p_b.length c2), (5, .int .i64 ((k4 : Int)))] L6 ∧ RdS w7 (Iv 0 w.heap.size) (RF e_Write) 3 A1 p_a.length c1 p_a ∧ RdS w7 (Iv 0 w.heap.size) (RF e_Write) 3 A2 p_b.length c2 p_b ∧ Ex w w7 ∧ loopM (B_l_eqWriteS_0 p_a p_b) (p_a.length - k4) k4 () = loopM (B_l_eqWriteS_0 p_a p_b) (p_a.length - 0) 0 ()) (p_a.length - 0) ?_ ?_)
  ·exact ⟨0, rfl, oM, Nat.le_refl _, (sR rfl), h1, h2, (Ex.refl w), rfl⟩
  ·rintro m8 L9 w10 ⟨k4, rfl, hk11, hsz13, hl14, hf15, hf16, hf17, hI12⟩
   refine CW.sub hl14 ?_
   have hf17z := Ex.size hf17
   have hbg18 := RdS.big hf15
   rcases Nat.lt_or_ge k4 p_a.length with hlt19 | hlt19
   ·refine CW.seq (cR (sM rfl (sM rfl (sd rfl (yL un34 rfl rfl (sd rfl (yl_lss rfl rfl rfl (dn ?_))))))))
    refine CW.cond_t rfl (lt_t hlt19) (CW.skip (tn (CW.seq (CW.block (CW.seq ?_)))))
    obtain ⟨eb20, eo20, _, eA20, _, ebl20, _, eR20, eC20⟩ := RdS.aD hf15 d_Write (i := k4)
    obtain rfl := eR20
    obtain ⟨eb21, eo21, _, eA21, _, ebl21, _, eR21, eC21⟩ := RdS.aD hf16 d_Write (i := k4)
    obtain rfl := eR21
    refine drJ 10 [.slice A1 p_a.length c1, .int .i64 ((k4 : Int)), .pointer (some ⟨eb20, eo20 + k4 * 3, none⟩), .agg #[.string (bs ((p_a.getD k4 d_Write).Key)), .string (bs ((p_a.getD k4 d_Write).Val)), .bool ((p_a.getD k4 d_Write).Gone)], .slice A2 p_b.length c2, .int .i64 ((k4 : Int)), .pointer (some ⟨eb21, eo21 + k4 * 3, none⟩), .agg #[.string (bs ((p_b.getD k4 d_Write).Key)), .string (bs ((p_b.getD k4 d_Write).Val)), .bool ((p_b.getD k4 d_Write).Gone)], .bool ((l_eqWrite (p_a.getD k4 d_Write) (p_b.getD k4 d_Write))), .bool (!(l_eqWrite (p_a.getD k4 d_Write) (p_b.getD k4 d_Write)))] Tryz.follows rfl ⟨oI rfl fun h => yM rfl (h.g 0 rfl) kI, oI rfl fun h => yM rfl (h.g 5 rfl) kI, ?_, oI rfl fun h => yl_loadN ty80 rfl (h.g 19 rfl) (Cells.ex eC20 h.ex) rfl kI, oI rfl fun h => yM rfl (h.g 1 rfl) kI, oI rfl fun h => yM rfl (h.g 5 rfl) kI, ?_, oI rfl fun h => yl_loadN ty80 rfl (h.g 23 rfl) (Cells.ex eC21 h.ex) rfl kI, ?_, oI rfl fun h => yl_not rfl (h.g 25 rfl) kI, trivial⟩ ?_
    ·intro L33 w34 hi35
     have hE36 := hi35.ex
     have hE36z := Ex.size hE36
     exact os rfl ((yl_ixN un34 ty80 rfl (hi35.g 17 rfl) (hi35.g 18 rfl) eA20 kI))
    ·intro L55 w56 hi57
     have hE58 := hi57.ex
     have hE58z := Ex.size hE58
     exact os rfl ((yl_ixN un34 ty80 rfl (hi57.g 21 rfl) (hi57.g 22 rfl) eA21 kI))
    ·intro L67 w68 hi69
     exact OpR.op' rfl (yC en50 rfl (oc (hi69.g 20 rfl) (oc (hi69.g 24 rfl) oz)) (Cal.mono (c_l_eqWrite (p_a.getD k4 d_Write) (p_b.getD k4 d_Write)) fun _ _ h => h))
    ·intro fl84 fh85 L81 w82 hp83
     have hE86 := hp83.ex
     have hE86z := Ex.size hE86
     refine dn (CW.sub (hp83.ss [0, 1, 5, 26] rfl) (bcase (l_eqWrite (p_a.getD k4 d_Write) (p_b.getD k4 d_Write)) (fun hb91 => ?_) (fun hb91 => ?_)))
     ·refine CW.cond_f rfl (not_t hb91) (CW.skip (bn (tn (CW.region (sM rfl (sd rfl (yl_inc rfl rfl rfl oM (sA rfl (SeqR.done ?_)))))))))
      refine tn ?_
      have hB92 : B_l_eqWriteS_0 p_a p_b k4 () = .cont () := by simp only [B_l_eqWriteS_0, hb3, hb91, cL]
      exact ⟨p_a.length - (k4 + 1), oM, k4 + 1, rfl, hlt19, oM, (sR rfl), (RdS.ex gW hf15 hE86), (RdS.ex gW hf16 hE86), (Ex.trans hf17 hE86), (loopM.cont hlt19 hB92).symm.trans hI12⟩
     ·refine CW.cond_t rfl (not_f hb91) (cR (sA rfl (dn (CW.ret (br (tr ?_))))))
      refine tr ?_
      have hB97 : B_l_eqWriteS_0 p_a p_b k4 () = .ret false := by simp only [B_l_eqWriteS_0, hb3, hb91, cL]
      have hL96 : loopM (B_l_eqWriteS_0 p_a p_b) (p_a.length - 0) 0 () = .ret false := hI12.symm.trans (loopM.ret hlt19 hB97)
      refine br (tr (rr rfl (.cons rfl .nil) ?_))
      rw [show (l_eqWriteS p_a p_b) = (false) by simp only [l_eqWriteS, hb3, hb91, hL96, cL]]
      exact ⟨rfl, (Ex.trans hf17 hE86)⟩
   ·refine CW.seq (cR (sM rfl (sM rfl (sd rfl (yL un34 rfl rfl (sd rfl (yl_lss rfl rfl rfl (dn ?_))))))))
    refine CW.cond_f rfl (lt_f hlt19) (CW.exit (tx (tx ?_)))
    have hL100 : loopM (B_l_eqWriteS_0 p_a p_b) (p_a.length - 0) 0 () = .done () := hI12.symm.trans (loopM.stop hlt19)
    refine bx (tn (cR (sA rfl (dn (CW.ret (rr rfl (.cons rfl .nil) ?_))))))
    rw [show (l_eqWriteS p_a p_b) = (true) by simp only [l_eqWriteS, hb3, hL100, cL]]
    exact ⟨rfl, hf17⟩
 ·refine CW.cond_t rfl (not_f hb3) (cR (sA rfl (dn (CW.ret (tr (rr rfl (.cons rfl .nil) ?_))))))
  rw [show (l_eqWriteS p_a p_b) = (false) by simp only [l_eqWriteS, hb3, cL]]
  exact ⟨rfl, (Ex.refl w)⟩
theorem c_l_eqStringS {A1 : Option Addr} {c1 : Nat} {A2 : Option Addr} {c2 : Nat} {w : World} (p_a : List Str) (p_b : List Str) (h1 : RdS w (Iv 0 w.heap.size) (RF e_Str) 1 A1 p_a.length c1 p_a) (h2 : RdS w (Iv 0 w.heap.size) (RF e_Str) 1 A2 p_b.length c2 p_b) : Cal Tryz.prog 33 #[.slice A1 p_a.length c1, .slice A2 p_b.length c2] w fun v w' => v = .bool ((l_eqStringS p_a p_b)) ∧ Ex w w' := by
 refine Cal.of func33 rfl ntmps33 rfl (cR (sA rfl (dn (CW.seq (cR ?_)))))
 refine sM rfl (sd rfl (yL un22 rfl rfl (sM rfl (sd rfl (yL un22 rfl rfl (sd rfl (yl_neq rfl rfl rfl (dn (bcD (q := (p_a.length : Int) = (p_b.length : Int)) (fun hb3 hb3p => ?_) (fun hb3 hb3p => ?_))))))))))
 ·refine CW.cond_f rfl (not_t hb3) (CW.skip (tn (CW.seq (cR (sA rfl (dn ?_))))))
  refine CW.block (CW.loop (fun m5 L6 w7 => ∃ (k4 : Nat), m5 = p_a.length - k4 ∧ k4 ≤ p_a.length ∧ w.heap.size ≤ w7.heap.size ∧ Sub [(0, .slice A1 p_a.length c1), (1, .slice A2 p_b.length c2), (5, .int .i64 ((k4 : Int)))] L6 ∧ RdS w7 (Iv 0 w.heap.size) (RF e_Str) 1 A1 p_a.length c1 p_a ∧ RdS w7 (Iv 0 w.heap.size) (RF e_Str) 1 A2 p_b.length c2 p_b ∧ Ex w w7 ∧ loopM (B_l_eqStringS_0 p_a p_b) (p_a.length - k4) k4 () = loopM (B_l_eqStringS_0 p_a p_b) (p_a.length - 0) 0 ()) (p_a.length - 0) ?_ ?_)
  ·exact ⟨0, rfl, oM, Nat.le_refl _, (sR rfl), h1, h2, (Ex.refl w), rfl⟩
  ·rintro m8 L9 w10 ⟨k4, rfl, hk11, hsz13, hl14, hf15, hf16, hf17, hI12⟩
   refine CW.sub hl14 ?_
   have hf17z := Ex.size hf17
   have hbg18 := RdS.big hf15
   rcases Nat.lt_or_ge k4 p_a.length with hlt19 | hlt19
   ·refine CW.seq (cR (sM rfl (sM rfl (sd rfl (yL un22 rfl rfl (sd rfl (yl_lss rfl rfl rfl (dn ?_))))))))
    refine CW.cond_t rfl (lt_t hlt19) (CW.skip (tn (CW.seq (CW.block (CW.seq ?_)))))
    obtain ⟨eb20, eo20, _, eA20, _, ebl20, _, eR20, eC20⟩ := RdS.aD hf15 d_Str (i := k4)
    obtain rfl := eR20
    obtain ⟨eb21, eo21, _, eA21, _, ebl21, _, eR21, eC21⟩ := RdS.aD hf16 d_Str (i := k4)
    obtain rfl := eR21
    refine drJ 9 [.slice A1 p_a.length c1, .int .i64 ((k4 : Int)), .pointer (some ⟨eb20, eo20 + k4 * 1, none⟩), .string (bs ((p_a.getD k4 d_Str))), .slice A2 p_b.length c2, .int .i64 ((k4 : Int)), .pointer (some ⟨eb21, eo21 + k4 * 1, none⟩), .string (bs ((p_b.getD k4 d_Str))), .bool (!((p_a.getD k4 d_Str) == (p_b.getD k4 d_Str)))] Tryz.follows rfl ⟨oI rfl fun h => yM rfl (h.g 0 rfl) kI, oI rfl fun h => yM rfl (h.g 5 rfl) kI, ?_, oI rfl fun h => yl_load1 ty9 rfl (h.g 19 rfl) ((Cells.ex eC20 h.ex) 0 _ rfl) kI, oI rfl fun h => yM rfl (h.g 1 rfl) kI, oI rfl fun h => yM rfl (h.g 5 rfl) kI, ?_, oI rfl fun h => yl_load1 ty9 rfl (h.g 23 rfl) ((Cells.ex eC21 h.ex) 0 _ rfl) kI, oI rfl fun h => yl_sneq (a := (p_a.getD k4 d_Str)) (b := (p_b.getD k4 d_Str)) rfl (h.g 20 rfl) (h.g 24 rfl) kI, trivial⟩ ?_
    ·intro L32 w33 hi34
     have hE35 := hi34.ex
     have hE35z := Ex.size hE35
     exact os rfl ((yl_ixN un22 ty9 rfl (hi34.g 17 rfl) (hi34.g 18 rfl) eA20 kI))
    ·intro L54 w55 hi56
     have hE57 := hi56.ex
     have hE57z := Ex.size hE57
     exact os rfl ((yl_ixN un22 ty9 rfl (hi56.g 21 rfl) (hi56.g 22 rfl) eA21 kI))
    ·intro fl75 fh76 L72 w73 hp74
     have hE77 := hp74.ex
     have hE77z := Ex.size hE77
     refine dn (CW.sub (hp74.ss [0, 1, 5, 25] rfl) (bcase ((p_a.getD k4 d_Str) == (p_b.getD k4 d_Str)) (fun hb82 => ?_) (fun hb82 => ?_)))
     ·refine CW.cond_f rfl (not_t hb82) (CW.skip (bn (tn (CW.region (sM rfl (sd rfl (yl_inc rfl rfl rfl oM (sA rfl (SeqR.done ?_)))))))))
      refine tn ?_
      have hB83 : B_l_eqStringS_0 p_a p_b k4 () = .cont () := by simp only [B_l_eqStringS_0, hb3, hb82, cL]
      exact ⟨p_a.length - (k4 + 1), oM, k4 + 1, rfl, hlt19, oM, (sR rfl), (RdS.ex gS hf15 hE77), (RdS.ex gS hf16 hE77), (Ex.trans hf17 hE77), (loopM.cont hlt19 hB83).symm.trans hI12⟩
     ·refine CW.cond_t rfl (not_f hb82) (cR (sA rfl (dn (CW.ret (br (tr ?_))))))
      refine tr ?_
      have hB88 : B_l_eqStringS_0 p_a p_b k4 () = .ret false := by simp only [B_l_eqStringS_0, hb3, hb82, cL]
      have hL87 : loopM (B_l_eqStringS_0 p_a p_b) (p_a.length - 0) 0 () = .ret false := hI12.symm.trans (loopM.ret hlt19 hB88)
      refine br (tr (rr rfl (.cons rfl .nil) ?_))
      rw [show (l_eqStringS p_a p_b) = (false) by simp only [l_eqStringS, hb3, hb82, hL87, cL]]
      exact ⟨rfl, (Ex.trans hf17 hE77)⟩
   ·refine CW.seq (cR (sM rfl (sM rfl (sd rfl (yL un22 rfl rfl (sd rfl (yl_lss rfl rfl rfl (dn ?_))))))))
    refine CW.cond_f rfl (lt_f hlt19) (CW.exit (tx (tx ?_)))
    have hL91 : loopM (B_l_eqStringS_0 p_a p_b) (p_a.length - 0) 0 () = .done () := hI12.symm.trans (loopM.stop hlt19)
    refine bx (tn (cR (sA rfl (dn (CW.ret (rr rfl (.cons rfl .nil) ?_))))))
    rw [show (l_eqStringS p_a p_b) = (true) by simp only [l_eqStringS, hb3, hL91, cL]]
    exact ⟨rfl, hf17⟩
 ·refine CW.cond_t rfl (not_f hb3) (cR (sA rfl (dn (CW.ret (tr (rr rfl (.cons rfl .nil) ?_))))))
  rw [show (l_eqStringS p_a p_b) = (false) by simp only [l_eqStringS, hb3, cL]]
  exact ⟨rfl, (Ex.refl w)⟩
theorem c_l_eqIdx {w : World} (p_a : DIdx) (p_b : DIdx) : Cal Tryz.prog 88 #[.agg #[.string (bs (p_a.Name)), .int .i64 (p_a.Col), .int .i64 (p_a.Stage)], .agg #[.string (bs (p_b.Name)), .int .i64 (p_b.Col), .int .i64 (p_b.Stage)]] w fun v w' => v = .bool ((l_eqIdx p_a p_b)) ∧ Ex w w' := by
 refine Cal.of func88 rfl ntmps88 rfl (cR (sd rfl (yl_box rfl rfl rfl ?_)))
 intro b1 w2 hs3 hz4 hB5 hE6
 refine sd rfl (yl_box rfl rfl rfl ?_)
 intro b7 w8 hs9 hz10 hB11 hE12
 refine sA rfl (dn (CW.seq (cR (sd rfl (yl_fieldAddr fd111_0 rfl rfl ?_)))))
 have q13 := Box.ex hB5 hE12
 refine sd rfl (yl_load1 ty9 rfl rfl ((q13.cell 0).trans rfl) (sd rfl (yl_fieldAddr fd111_0 rfl rfl (sd rfl (yl_load1 ty9 rfl rfl ((hB11.cell 0).trans rfl) (sd rfl (yl_sneq (a := p_a.Name) (b := p_b.Name) rfl rfl rfl (dn (bcase (p_a.Name == p_b.Name) (fun hb14 => ?_) (fun hb14 => ?_))))))))))
 ·refine CW.cond_f rfl (not_t hb14) (CW.skip (tn (CW.seq (cR (sd rfl (yl_fieldAddr fd111_1 rfl rfl (sd rfl (yl_load1 ty3 rfl rfl ((q13.cell 1).trans rfl) (sd rfl (yl_fieldAddr fd111_1 rfl rfl ?_))))))))))
  refine sd rfl (yl_load1 ty3 rfl rfl ((hB11.cell 1).trans rfl) (sd rfl (yl_neq rfl rfl rfl (dn (bcD (q := p_a.Col = p_b.Col) (fun hb15 hb15p => ?_) (fun hb15 hb15p => ?_))))))
  ·refine CW.cond_f rfl (not_t hb15) (CW.skip (tn (CW.seq (cR (sd rfl (yl_fieldAddr fd111_2 rfl rfl (sd rfl (yl_load1 ty3 rfl rfl ((q13.cell 2).trans rfl) (sd rfl (yl_fieldAddr fd111_2 rfl rfl ?_))))))))))
   refine sd rfl (yl_load1 ty3 rfl rfl ((hB11.cell 2).trans rfl) (sd rfl (yl_neq rfl rfl rfl (dn (bcD (q := p_a.Stage = p_b.Stage) (fun hb16 hb16p => ?_) (fun hb16 hb16p => ?_))))))
   ·refine CW.cond_f rfl (not_t hb16) (CW.skip (tn (cR (sA rfl (dn (CW.ret ?_))))))
    refine rr rfl (.cons rfl .nil) ?_
    rw [show (l_eqIdx p_a p_b) = (true) by simp only [l_eqIdx, hb14, hb15, hb16, cL]]
    exact ⟨rfl, (Ex.trans (Ex.trans (Ex.refl w) hE6) hE12)⟩
   ·refine CW.cond_t rfl (not_f hb16) (cR (sA rfl (dn (CW.ret (tr (rr rfl (.cons rfl .nil) ?_))))))
    rw [show (l_eqIdx p_a p_b) = (false) by simp only [l_eqIdx, hb14, hb15, hb16, cL]]
    exact ⟨rfl, (Ex.trans (Ex.trans (Ex.refl w) hE6) hE12)⟩
  ·refine CW.cond_t rfl (not_f hb15) (cR (sA rfl (dn (CW.ret (tr (rr rfl (.cons rfl .nil) ?_))))))
   rw [show (l_eqIdx p_a p_b) = (false) by simp only [l_eqIdx, hb14, hb15, cL]]
   exact ⟨rfl, (Ex.trans (Ex.trans (Ex.refl w) hE6) hE12)⟩
 ·refine CW.cond_t rfl (not_f hb14) (cR (sA rfl (dn (CW.ret (tr (rr rfl (.cons rfl .nil) ?_))))))
  rw [show (l_eqIdx p_a p_b) = (false) by simp only [l_eqIdx, hb14, cL]]
  exact ⟨rfl, (Ex.trans (Ex.trans (Ex.refl w) hE6) hE12)⟩
theorem c_l_eqIdxS {A1 : Option Addr} {c1 : Nat} {A2 : Option Addr} {c2 : Nat} {w : World} (p_a : List DIdx) (p_b : List DIdx) (h1 : RdS w (Iv 0 w.heap.size) (RF e_Idx) 3 A1 p_a.length c1 p_a) (h2 : RdS w (Iv 0 w.heap.size) (RF e_Idx) 3 A2 p_b.length c2 p_b) : Cal Tryz.prog 51 #[.slice A1 p_a.length c1, .slice A2 p_b.length c2] w fun v w' => v = .bool ((l_eqIdxS p_a p_b)) ∧ Ex w w' := by
 refine Cal.of func51 rfl ntmps51 rfl (cR (sA rfl (dn (CW.seq (cR ?_)))))
 refine sM rfl (sd rfl (yL un37 rfl rfl (sM rfl (sd rfl (yL un37 rfl rfl (sd rfl (yl_neq rfl rfl rfl (dn (bcD (q := (p_a.length : Int) = (p_b.length : Int)) (fun hb3 hb3p => ?_) (fun hb3 hb3p => ?_))))))))))
 ·refine CW.cond_f rfl (not_t hb3) (CW.skip (tn (CW.seq (cR (sA rfl (dn ?_))))))
  refine CW.block (CW.loop (fun m5 L6 w7 => ∃ (k4 : Nat), m5 = p_a.length - k4 ∧ k4 ≤ p_a.length ∧ w.heap.size ≤ w7.heap.size ∧ Sub [(0, .slice A1 p_a.length c1), (1, .slice A2 p_b.length c2), (5, .int .i64 ((k4 : Int)))] L6 ∧ RdS w7 (Iv 0 w.heap.size) (RF e_Idx) 3 A1 p_a.length c1 p_a ∧ RdS w7 (Iv 0 w.heap.size) (RF e_Idx) 3 A2 p_b.length c2 p_b ∧ Ex w w7 ∧ loopM (B_l_eqIdxS_0 p_a p_b) (p_a.length - k4) k4 () = loopM (B_l_eqIdxS_0 p_a p_b) (p_a.length - 0) 0 ()) (p_a.length - 0) ?_ ?_)
  ·exact ⟨0, rfl, oM, Nat.le_refl _, (sR rfl), h1, h2, (Ex.refl w), rfl⟩
  ·rintro m8 L9 w10 ⟨k4, rfl, hk11, hsz13, hl14, hf15, hf16, hf17, hI12⟩
   refine CW.sub hl14 ?_
   have hf17z := Ex.size hf17
   have hbg18 := RdS.big hf15
   rcases Nat.lt_or_ge k4 p_a.length with hlt19 | hlt19
   ·refine CW.seq (cR (sM rfl (sM rfl (sd rfl (yL un37 rfl rfl (sd rfl (yl_lss rfl rfl rfl (dn ?_))))))))
    refine CW.cond_t rfl (lt_t hlt19) (CW.skip (tn (CW.seq (CW.block (CW.seq ?_)))))
    obtain ⟨eb20, eo20, _, eA20, _, ebl20, _, eR20, eC20⟩ := RdS.aD hf15 d_Idx (i := k4)
    obtain rfl := eR20
    obtain ⟨eb21, eo21, _, eA21, _, ebl21, _, eR21, eC21⟩ := RdS.aD hf16 d_Idx (i := k4)
    obtain rfl := eR21
    refine drJ 10 [.slice A1 p_a.length c1, .int .i64 ((k4 : Int)), .pointer (some ⟨eb20, eo20 + k4 * 3, none⟩), .agg #[.string (bs ((p_a.getD k4 d_Idx).Name)), .int .i64 ((p_a.getD k4 d_Idx).Col), .int .i64 ((p_a.getD k4 d_Idx).Stage)], .slice A2 p_b.length c2, .int .i64 ((k4 : Int)), .pointer (some ⟨eb21, eo21 + k4 * 3, none⟩), .agg #[.string (bs ((p_b.getD k4 d_Idx).Name)), .int .i64 ((p_b.getD k4 d_Idx).Col), .int .i64 ((p_b.getD k4 d_Idx).Stage)], .bool ((l_eqIdx (p_a.getD k4 d_Idx) (p_b.getD k4 d_Idx))), .bool (!(l_eqIdx (p_a.getD k4 d_Idx) (p_b.getD k4 d_Idx)))] Tryz.follows rfl ⟨oI rfl fun h => yM rfl (h.g 0 rfl) kI, oI rfl fun h => yM rfl (h.g 5 rfl) kI, ?_, oI rfl fun h => yl_loadN ty111 rfl (h.g 19 rfl) (Cells.ex eC20 h.ex) rfl kI, oI rfl fun h => yM rfl (h.g 1 rfl) kI, oI rfl fun h => yM rfl (h.g 5 rfl) kI, ?_, oI rfl fun h => yl_loadN ty111 rfl (h.g 23 rfl) (Cells.ex eC21 h.ex) rfl kI, ?_, oI rfl fun h => yl_not rfl (h.g 25 rfl) kI, trivial⟩ ?_
    ·intro L33 w34 hi35
     have hE36 := hi35.ex
     have hE36z := Ex.size hE36
     exact os rfl ((yl_ixN un37 ty111 rfl (hi35.g 17 rfl) (hi35.g 18 rfl) eA20 kI))
    ·intro L55 w56 hi57
     have hE58 := hi57.ex
     have hE58z := Ex.size hE58
     exact os rfl ((yl_ixN un37 ty111 rfl (hi57.g 21 rfl) (hi57.g 22 rfl) eA21 kI))
    ·intro L67 w68 hi69
     exact OpR.op' rfl (yC en88 rfl (oc (hi69.g 20 rfl) (oc (hi69.g 24 rfl) oz)) (Cal.mono (c_l_eqIdx (p_a.getD k4 d_Idx) (p_b.getD k4 d_Idx)) fun _ _ h => h))
    ·intro fl84 fh85 L81 w82 hp83
     have hE86 := hp83.ex
     have hE86z := Ex.size hE86
     refine dn (CW.sub (hp83.ss [0, 1, 5, 26] rfl) (bcase (l_eqIdx (p_a.getD k4 d_Idx) (p_b.getD k4 d_Idx)) (fun hb91 => ?_) (fun hb91 => ?_)))
     ·refine CW.cond_f rfl (not_t hb91) (CW.skip (bn (tn (CW.region (sM rfl (sd rfl (yl_inc rfl rfl rfl oM (sA rfl (SeqR.done ?_)))))))))
      refine tn ?_
      have hB92 : B_l_eqIdxS_0 p_a p_b k4 () = .cont () := by simp only [B_l_eqIdxS_0, hb3, hb91, cL]
      exact ⟨p_a.length - (k4 + 1), oM, k4 + 1, rfl, hlt19, oM, (sR rfl), (RdS.ex gI hf15 hE86), (RdS.ex gI hf16 hE86), (Ex.trans hf17 hE86), (loopM.cont hlt19 hB92).symm.trans hI12⟩
     ·refine CW.cond_t rfl (not_f hb91) (cR (sA rfl (dn (CW.ret (br (tr ?_))))))
      refine tr ?_
      have hB97 : B_l_eqIdxS_0 p_a p_b k4 () = .ret false := by simp only [B_l_eqIdxS_0, hb3, hb91, cL]
      have hL96 : loopM (B_l_eqIdxS_0 p_a p_b) (p_a.length - 0) 0 () = .ret false := hI12.symm.trans (loopM.ret hlt19 hB97)
      refine br (tr (rr rfl (.cons rfl .nil) ?_))
      rw [show (l_eqIdxS p_a p_b) = (false) by simp only [l_eqIdxS, hb3, hb91, hL96, cL]]
      exact ⟨rfl, (Ex.trans hf17 hE86)⟩
   ·refine CW.seq (cR (sM rfl (sM rfl (sd rfl (yL un37 rfl rfl (sd rfl (yl_lss rfl rfl rfl (dn ?_))))))))
    refine CW.cond_f rfl (lt_f hlt19) (CW.exit (tx (tx ?_)))
    have hL100 : loopM (B_l_eqIdxS_0 p_a p_b) (p_a.length - 0) 0 () = .done () := hI12.symm.trans (loopM.stop hlt19)
    refine bx (tn (cR (sA rfl (dn (CW.ret (rr rfl (.cons rfl .nil) ?_))))))
    rw [show (l_eqIdxS p_a p_b) = (true) by simp only [l_eqIdxS, hb3, hL100, cL]]
    exact ⟨rfl, hf17⟩
 ·refine CW.cond_t rfl (not_f hb3) (cR (sA rfl (dn (CW.ret (tr (rr rfl (.cons rfl .nil) ?_))))))
  rw [show (l_eqIdxS p_a p_b) = (false) by simp only [l_eqIdxS, hb3, cL]]
  exact ⟨rfl, (Ex.refl w)⟩
theorem c_l_eqTable {A1 : Option Addr} {c1 : Nat} {A2 : Option Addr} {c2 : Nat} {A3 : Option Addr} {c3 : Nat} {A4 : Option Addr} {c4 : Nat} {w : World} (p_a : DTable) (p_b : DTable) (h1 : RdS w (Iv 0 w.heap.size) (RF e_Str) 1 A1 p_a.Cols.length c1 p_a.Cols) (h2 : RdS w (Iv 0 w.heap.size) (RF e_Idx) 3 A2 p_a.Idxs.length c2 p_a.Idxs) (h3 : RdS w (Iv 0 w.heap.size) (RF e_Str) 1 A3 p_b.Cols.length c3 p_b.Cols) (h4 : RdS w (Iv 0 w.heap.size) (RF e_Idx) 3 A4 p_b.Idxs.length c4 p_b.Idxs) : Cal Tryz.prog 16 #[.agg #[.string (bs (p_a.Name)), .slice A1 p_a.Cols.length c1, .slice A2 p_a.Idxs.length c2], .agg #[.string (bs (p_b.Name)), .slice A3 p_b.Cols.length c3, .slice A4 p_b.Idxs.length c4]] w fun v w' => v = .bool ((l_eqTable p_a p_b)) ∧ Ex w w' := by
 refine Cal.of func16 rfl ntmps16 rfl (cR (sd rfl (yl_box rfl rfl rfl ?_)))
 intro b5 w6 hs7 hz8 hB9 hE10
 refine sd rfl (yl_box rfl rfl rfl ?_)
 intro b11 w12 hs13 hz14 hB15 hE16
 refine sA rfl (dn (CW.seq (cR (sd rfl (yl_fieldAddr fd39_0 rfl rfl ?_)))))
 have q17 := Box.ex hB9 hE16
 refine sd rfl (yl_load1 ty9 rfl rfl ((q17.cell 0).trans rfl) (sd rfl (yl_fieldAddr fd39_0 rfl rfl (sd rfl (yl_load1 ty9 rfl rfl ((hB15.cell 0).trans rfl) (sd rfl (yl_sneq (a := p_a.Name) (b := p_b.Name) rfl rfl rfl (dn (bcase (p_a.Name == p_b.Name) (fun hb18 => ?_) (fun hb18 => ?_))))))))))
 ·refine CW.cond_f rfl (not_t hb18) (CW.skip (tn (CW.seq (cR (sd rfl (yl_fieldAddr fd39_1 rfl rfl (sd rfl (yl_load1 ty22 rfl rfl ((q17.cell 1).trans rfl) (sd rfl (yl_fieldAddr fd39_1 rfl rfl ?_))))))))))
  refine sd rfl (yl_load1 ty22 rfl rfl ((hB15.cell 1).trans rfl) (sd rfl (yC en33 rfl (oc rfl (oc rfl oz)) (Cal.mono (c_l_eqStringS p_a.Cols p_b.Cols (RdS.up (RdS.ex gS (RdS.ex gS h1 hE10) hE16) gS) (RdS.up (RdS.ex gS (RdS.ex gS h3 hE10) hE16) gS)) ?_))))
  rintro v24 w23 ⟨rfl, hE25⟩
  refine sd rfl (yl_not rfl rfl (dn (bcase (l_eqStringS p_a.Cols p_b.Cols) (fun hb26 => ?_) (fun hb26 => ?_))))
  ·refine CW.cond_f rfl (not_t hb26) (CW.skip (tn (CW.seq (cR (sd rfl (yl_fieldAddr fd39_2 rfl rfl (sd rfl (yl_load1 ty37 rfl rfl (((Box.ex q17 hE25).cell 2).trans rfl) (sd rfl (yl_fieldAddr fd39_2 rfl rfl ?_))))))))))
   refine sd rfl (yl_load1 ty37 rfl rfl (((Box.ex hB15 hE25).cell 2).trans rfl) (sd rfl (yC en51 rfl (oc rfl (oc rfl oz)) (Cal.mono (c_l_eqIdxS p_a.Idxs p_b.Idxs (RdS.up (RdS.ex gI (RdS.ex gI (RdS.ex gI h2 hE10) hE16) hE25) gI) (RdS.up (RdS.ex gI (RdS.ex gI (RdS.ex gI h4 hE10) hE16) hE25) gI)) ?_))))
   rintro v36 w35 ⟨rfl, hE37⟩
   refine sd rfl (yl_not rfl rfl (dn (bcase (l_eqIdxS p_a.Idxs p_b.Idxs) (fun hb38 => ?_) (fun hb38 => ?_))))
   ·refine CW.cond_f rfl (not_t hb38) (CW.skip (tn (cR (sA rfl (dn (CW.ret ?_))))))
    refine rr rfl (.cons rfl .nil) ?_
    rw [show (l_eqTable p_a p_b) = (true) by simp only [l_eqTable, hb18, hb26, hb38, cL]]
    exact ⟨rfl, (Ex.trans (Ex.trans (Ex.trans (Ex.trans (Ex.refl w) hE10) hE16) hE25) hE37)⟩
   ·refine CW.cond_t rfl (not_f hb38) (cR (sA rfl (dn (CW.ret (tr (rr rfl (.cons rfl .nil) ?_))))))
    rw [show (l_eqTable p_a p_b) = (false) by simp only [l_eqTable, hb18, hb26, hb38, cL]]
    exact ⟨rfl, (Ex.trans (Ex.trans (Ex.trans (Ex.trans (Ex.refl w) hE10) hE16) hE25) hE37)⟩
  ·refine CW.cond_t rfl (not_f hb26) (cR (sA rfl (dn (CW.ret (tr (rr rfl (.cons rfl .nil) ?_))))))
   rw [show (l_eqTable p_a p_b) = (false) by simp only [l_eqTable, hb18, hb26, cL]]
   exact ⟨rfl, (Ex.trans (Ex.trans (Ex.trans (Ex.refl w) hE10) hE16) hE25)⟩
 ·refine CW.cond_t rfl (not_f hb18) (cR (sA rfl (dn (CW.ret (tr (rr rfl (.cons rfl .nil) ?_))))))
  rw [show (l_eqTable p_a p_b) = (false) by simp only [l_eqTable, hb18, cL]]
  exact ⟨rfl, (Ex.trans (Ex.trans (Ex.refl w) hE10) hE16)⟩
theorem c_l_eqRow {A1 : Option Addr} {c1 : Nat} {A2 : Option Addr} {c2 : Nat} {w : World} (p_a : DRow) (p_b : DRow) (h1 : RdS w (Iv 0 w.heap.size) (RF e_Str) 1 A1 p_a.Vals.length c1 p_a.Vals) (h2 : RdS w (Iv 0 w.heap.size) (RF e_Str) 1 A2 p_b.Vals.length c2 p_b.Vals) : Cal Tryz.prog 52 #[.agg #[.slice A1 p_a.Vals.length c1], .agg #[.slice A2 p_b.Vals.length c2]] w fun v w' => v = .bool ((l_eqRow p_a p_b)) ∧ Ex w w' := by
 refine Cal.of func52 rfl ntmps52 rfl (cR (sd rfl (yl_box rfl rfl rfl ?_)))
 intro b3 w4 hs5 hz6 hB7 hE8
 refine sd rfl (yl_box rfl rfl rfl ?_)
 intro b9 w10 hs11 hz12 hB13 hE14
 refine sA rfl (dn (CW.seq (cR (sd rfl (yl_fieldAddr fd42_0 rfl rfl (sd rfl (yl_load1 ty22 rfl rfl (((Box.ex hB7 hE14).cell 0).trans rfl) (sd rfl (yl_fieldAddr fd42_0 rfl rfl ?_)))))))))
 refine sd rfl (yl_load1 ty22 rfl rfl ((hB13.cell 0).trans rfl) (sd rfl (yC en33 rfl (oc rfl (oc rfl oz)) (Cal.mono (c_l_eqStringS p_a.Vals p_b.Vals (RdS.up (RdS.ex gS (RdS.ex gS h1 hE8) hE14) gS) (RdS.up (RdS.ex gS (RdS.ex gS h2 hE8) hE14) gS)) ?_))))
 rintro v21 w20 ⟨rfl, hE22⟩
 refine sd rfl (yl_not rfl rfl (dn (bcase (l_eqStringS p_a.Vals p_b.Vals) (fun hb23 => ?_) (fun hb23 => ?_))))
 ·refine CW.cond_f rfl (not_t hb23) (CW.skip (tn (cR (sA rfl (dn (CW.ret ?_))))))
  refine rr rfl (.cons rfl .nil) ?_
  rw [show (l_eqRow p_a p_b) = (true) by simp only [l_eqRow, hb23, cL]]
  exact ⟨rfl, (Ex.trans (Ex.trans (Ex.trans (Ex.refl w) hE8) hE14) hE22)⟩
 ·refine CW.cond_t rfl (not_f hb23) (cR (sA rfl (dn (CW.ret (tr (rr rfl (.cons rfl .nil) ?_))))))
  rw [show (l_eqRow p_a p_b) = (false) by simp only [l_eqRow, hb23, cL]]
  exact ⟨rfl, (Ex.trans (Ex.trans (Ex.trans (Ex.refl w) hE8) hE14) hE22)⟩
theorem c_l_eqRowAct {A1 : Option Addr} {c1 : Nat} {A2 : Option Addr} {c2 : Nat} {A3 : Option Addr} {c3 : Nat} {A4 : Option Addr} {c4 : Nat} {w : World} (p_a : DRowAct) (p_b : DRowAct) (h1 : RdS w (Iv 0 w.heap.size) (RF e_Str) 1 A1 p_a.Old.Vals.length c1 p_a.Old.Vals) (h2 : RdS w (Iv 0 w.heap.size) (RF e_Str) 1 A2 p_a.New.Vals.length c2 p_a.New.Vals) (h3 : RdS w (Iv 0 w.heap.size) (RF e_Str) 1 A3 p_b.Old.Vals.length c3 p_b.Old.Vals) (h4 : RdS w (Iv 0 w.heap.size) (RF e_Str) 1 A4 p_b.New.Vals.length c4 p_b.New.Vals) : Cal Tryz.prog 17 #[.agg #[.int .i64 (p_a.Kind), .slice A1 p_a.Old.Vals.length c1, .slice A2 p_a.New.Vals.length c2], .agg #[.int .i64 (p_b.Kind), .slice A3 p_b.Old.Vals.length c3, .slice A4 p_b.New.Vals.length c4]] w fun v w' => v = .bool ((l_eqRowAct p_a p_b)) ∧ Ex w w' := by
 refine Cal.of func17 rfl ntmps17 rfl (cR (sd rfl (yl_box rfl rfl rfl ?_)))
 intro b5 w6 hs7 hz8 hB9 hE10
 refine sd rfl (yl_box rfl rfl rfl ?_)
 intro b11 w12 hs13 hz14 hB15 hE16
 refine sA rfl (dn (CW.seq (cR (sd rfl (yl_fieldAddr fd44_0 rfl rfl ?_)))))
 have q17 := Box.ex hB9 hE16
 refine sd rfl (yl_load1 ty3 rfl rfl ((q17.cell 0).trans rfl) (sd rfl (yl_fieldAddr fd44_0 rfl rfl (sd rfl (yl_load1 ty3 rfl rfl ((hB15.cell 0).trans rfl) (sd rfl (yl_neq rfl rfl rfl (dn (bcD (q := p_a.Kind = p_b.Kind) (fun hb18 hb18p => ?_) (fun hb18 hb18p => ?_))))))))))
 ·refine CW.cond_f rfl (not_t hb18) (CW.skip (tn (CW.seq (cR (sd rfl (yl_fieldAddr fd44_1 rfl rfl (sd rfl (yl_loadN ty42 rfl rfl (q17.cells (n := 1) rfl) rfl (sd rfl (yl_fieldAddr fd44_1 rfl rfl ?_))))))))))
  refine sd rfl (yl_loadN ty42 rfl rfl (hB15.cells (n := 1) rfl) rfl (sd rfl (yC en52 rfl (oc rfl (oc rfl oz)) (Cal.mono (c_l_eqRow p_a.Old p_b.Old (RdS.up (RdS.ex gS (RdS.ex gS h1 hE10) hE16) gS) (RdS.up (RdS.ex gS (RdS.ex gS h3 hE10) hE16) gS)) ?_))))
  rintro v24 w23 ⟨rfl, hE25⟩
  refine sd rfl (yl_not rfl rfl (dn (bcase (l_eqRow p_a.Old p_b.Old) (fun hb26 => ?_) (fun hb26 => ?_))))
  ·refine CW.cond_f rfl (not_t hb26) (CW.skip (tn (CW.seq (cR (sd rfl (yl_fieldAddr fd44_2 rfl rfl (sd rfl (yl_loadN ty42 rfl rfl ((Box.ex q17 hE25).cells (n := 1) rfl) rfl (sd rfl (yl_fieldAddr fd44_2 rfl rfl ?_))))))))))
   refine sd rfl (yl_loadN ty42 rfl rfl ((Box.ex hB15 hE25).cells (n := 1) rfl) rfl (sd rfl (yC en52 rfl (oc rfl (oc rfl oz)) (Cal.mono (c_l_eqRow p_a.New p_b.New (RdS.up (RdS.ex gS (RdS.ex gS (RdS.ex gS h2 hE10) hE16) hE25) gS) (RdS.up (RdS.ex gS (RdS.ex gS (RdS.ex gS h4 hE10) hE16) hE25) gS)) ?_))))
   rintro v36 w35 ⟨rfl, hE37⟩
   refine sd rfl (yl_not rfl rfl (dn (bcase (l_eqRow p_a.New p_b.New) (fun hb38 => ?_) (fun hb38 => ?_))))
   ·refine CW.cond_f rfl (not_t hb38) (CW.skip (tn (cR (sA rfl (dn (CW.ret ?_))))))
    refine rr rfl (.cons rfl .nil) ?_
    rw [show (l_eqRowAct p_a p_b) = (true) by simp only [l_eqRowAct, hb18, hb26, hb38, cL]]
    exact ⟨rfl, (Ex.trans (Ex.trans (Ex.trans (Ex.trans (Ex.refl w) hE10) hE16) hE25) hE37)⟩
   ·refine CW.cond_t rfl (not_f hb38) (cR (sA rfl (dn (CW.ret (tr (rr rfl (.cons rfl .nil) ?_))))))
    rw [show (l_eqRowAct p_a p_b) = (false) by simp only [l_eqRowAct, hb18, hb26, hb38, cL]]
    exact ⟨rfl, (Ex.trans (Ex.trans (Ex.trans (Ex.trans (Ex.refl w) hE10) hE16) hE25) hE37)⟩
  ·refine CW.cond_t rfl (not_f hb26) (cR (sA rfl (dn (CW.ret (tr (rr rfl (.cons rfl .nil) ?_))))))
   rw [show (l_eqRowAct p_a p_b) = (false) by simp only [l_eqRowAct, hb18, hb26, cL]]
   exact ⟨rfl, (Ex.trans (Ex.trans (Ex.trans (Ex.refl w) hE10) hE16) hE25)⟩
 ·refine CW.cond_t rfl (not_f hb18) (cR (sA rfl (dn (CW.ret (tr (rr rfl (.cons rfl .nil) ?_))))))
  rw [show (l_eqRowAct p_a p_b) = (false) by simp only [l_eqRowAct, hb18, cL]]
  exact ⟨rfl, (Ex.trans (Ex.trans (Ex.refl w) hE10) hE16)⟩
theorem c_l_markText {w : World} (p_k : Int) (pre0 : p_k ≤ 9223372036854775807) : Cal Tryz.prog 54 #[.int .i64 (p_k)] w fun v w' => v = .string (bs ((l_markText p_k))) ∧ Ex w w' := by
 refine Cal.of func54 rfl ntmps54 rfl (cR (sA rfl (dn (CW.seq (cR ?_)))))
 refine sM rfl (sd rfl (yl_leq rfl rfl rfl (dn (bcD (q := p_k ≤ 0) (fun hb1 hb1p => ?_) (fun hb1 hb1p => ?_)))))
 ·refine CW.cond_t rfl hb1 (cR (sA rfl (dn (CW.ret (tr (rr rfl (.cons rfl .nil) ?_))))))
  rw [show (l_markText p_k) = (([109, 48] : Str)) by simp only [l_markText, hb1, cL]]
  exact ⟨rfl, (Ex.refl w)⟩
 ·refine CW.cond_f rfl hb1 (CW.skip (tn (cR (sA rfl (dn (CW.seq ?_))))))
  refine CW.block (CW.loop (fun m18 L19 w20 => ∃ (x16 : Int) (x17 : Str), (((x16).toNat + 1) / 2) < m18 ∧ w.heap.size ≤ w20.heap.size ∧ Sub [(0, .int .i64 (x16)), (3, .string (bs (x17)))] L19 ∧ Ex w w20 ∧ x17.length + 1 * (((x16).toNat + 1) / 2) ≤ 0 + 1 * (((p_k).toNat + 1) / 2) ∧ x16 ≤ 9223372036854775807 ∧ loopW (B_l_markText_0 p_k) m18 (x16, x17) = loopW (B_l_markText_0 p_k) ((((p_k).toNat + 1) / 2) + 1) (p_k, ([] : Str))) ((((p_k).toNat + 1) / 2) + 1) ?_ ?_)
  ·exact ⟨p_k, ([] : Str), Nat.lt_succ_self _, Nat.le_refl _, (sR rfl), (Ex.refl w), (by first | (simp; done) | (first | omega | (simp only [lN, toS_length]; omega))), Bo, rfl⟩
  ·rintro m21 L22 w23 ⟨x16, x17, hk24, hsz26, hl27, hf28, hln29, hv30, hI25⟩
   refine CW.sub hl27 ?_
   have hf28z := Ex.size hf28
   refine CW.seq (cR (sM rfl (sd rfl (yl_gtr rfl rfl rfl (dn (bcD (q := 0 < x16) (fun hb31 hb31p => ?_) (fun hb31 hb31p => ?_)))))))
   ·refine CW.cond_t rfl hb31 (CW.skip (tn (CW.block (cR (sM rfl (sd rfl (yl_rem rfl rfl rfl (by decide) (sd rfl (yl_add rfl rfl rfl ?_)))))))))
    refine sd rfl (yl_conv un3 un5 rfl rfl (sd rfl (yl_buildSlice (cs := [.int .u8 (IntKind.wrap .u8 (IntKind.wrap .i64 (48 + (Int.tmod x16 10))))]) un127 ty5 (by decide) rfl (oc rfl oz) (by kernel_rfl) ?_)))
    intro b32 w33 hs34 hz35 hB36 hE37
    have hO38 : OwnL w33 b32 (b32 + 1) 5 1 (RF e_U8) (some ⟨b32, 0, none⟩) 1 1 ([IntKind.wrap .u8 (IntKind.wrap .i64 (48 + (Int.tmod x16 10)))] : List Int) := OwnL.of_box (S := fun _ => False) hB36 (Nat.le_refl _) (Nat.lt_succ_self _) (EncL.cons (c := [.int .u8 (IntKind.wrap .u8 (IntKind.wrap .i64 (48 + (Int.tmod x16 10))))]) rfl rfl EncL.nil) (nb rfl) (fun h => h) (fun _ h => False.elim h)
    refine sd rfl (yl_toS un127 un5 un9 rfl rfl (OwnL.rd gU hO38) (sM rfl ?_))
    have hol40 : (toS ([IntKind.wrap .u8 (IntKind.wrap .i64 (48 + (Int.tmod x16 10)))] : List Int)).length ≤ 1073741824 := (okS_toS (nb rfl))
    refine sd rfl (yl_sadd (a := (toS ([IntKind.wrap .u8 (IntKind.wrap .i64 (48 + (Int.tmod x16 10)))] : List Int))) (b := x17) rfl rfl rfl Bl (sA rfl (dn (CW.region (sM rfl (sd rfl (yl_quo rfl rfl rfl (by decide) (sA rfl (SeqR.done ?_)))))))))
    refine bn (tn ?_)
    have hB41 : B_l_markText_0 p_k (x16, x17) = .cont (IntKind.wrap .i64 (Int.tdiv x16 10), (toS ([IntKind.wrap .u8 (IntKind.wrap .i64 (48 + (Int.tmod x16 10)))] : List Int)) ++ x17) := by simp only [B_l_markText_0, hb1, hb31, cL]
    have hmu43 : (((IntKind.wrap .i64 (Int.tdiv x16 10)).toNat + 1) / 2) < (((x16).toNat + 1) / 2) := by (have hq := wtd (n := x16) (c := 10) (by decide) oM oM; omega)
    exact ⟨m21 - 1, oM, IntKind.wrap .i64 (Int.tdiv x16 10), (toS ([IntKind.wrap .u8 (IntKind.wrap .i64 (48 + (Int.tmod x16 10)))] : List Int)) ++ x17, oM, oM, (sR rfl), (Ex.trans hf28 hE37), Bl, (by (have hq := wtd (n := x16) (c := 10) (by decide) oM oM; omega)), (loopW.cont hk24 hB41).symm.trans hI25⟩
   ·refine CW.cond_f rfl hb31 (CW.exit (tx (tx ?_)))
    have hB45 : B_l_markText_0 p_k (x16, x17) = .brk (x16, x17) := by simp only [B_l_markText_0, hb1, hb31, cL]
    have hL44 : loopW (B_l_markText_0 p_k) ((((p_k).toNat + 1) / 2) + 1) (p_k, ([] : Str)) = .done (x16, x17) := hI25.symm.trans (loopW.brk hk24 hB45)
    refine bx (tn (cR (sM rfl (sd rfl (yl_sadd (a := ([109] : Str)) (b := x17) rfl rfl rfl Bl (sA rfl (dn ?_)))))))
    refine CW.ret (rr rfl (.cons rfl .nil) ?_)
    rw [show (l_markText p_k) = (([109] : Str) ++ x17) by simp only [l_markText, hb1, hb31, hL44, cL]]
    exact ⟨rfl, hf28⟩
theorem c_l_markStringS {A1 : Option Addr} {c1 : Nat} {lo1 hi1 : Nat} {w : World} (p_a : List Str) (p_k : Int) (h1 : OwnL w lo1 hi1 9 1 (RF e_Str) A1 p_a.length c1 p_a) (hrn2 : (0 ≤ lo1 ∧ lo1 ≤ hi1 ∧ hi1 ≤ w.heap.size)) (pre0 : p_k ≤ 9223372036854775807) : Cal Tryz.prog 34 #[.slice A1 p_a.length c1, .int .i64 (p_k)] w fun v w' => v = .int .i64 ((l_markStringS p_a p_k).1) ∧ OwnL w' lo1 hi1 9 1 (RF e_Str) A1 p_a.length c1 ((l_markStringS p_a p_k).2) ∧ Mut [(lo1, hi1)] w w' := by
 refine Cal.of func34 rfl ntmps34 rfl (cR (sA rfl (dn (CW.seq (cR ?_)))))
 refine sA rfl (dn (CW.block (CW.loop (fun m16 L17 w18 => ∃ (k3 : Nat) (x14 : Int) (x15 : List Str), m16 = p_a.length - k3 ∧ k3 ≤ p_a.length ∧ w.heap.size ≤ w18.heap.size ∧ Sub [(0, .slice A1 p_a.length c1), (1, .int .i64 (x14)), (5, .int .i64 ((k3 : Int)))] L17 ∧ OwnL w18 lo1 hi1 9 1 (RF e_Str) A1 p_a.length c1 x15 ∧ Mut [(lo1, hi1)] w w18 ∧ x14 ≤ 9223372036854775807 ∧ loopM (B_l_markStringS_0 p_a p_k) (p_a.length - k3) k3 (x14, x15) = loopM (B_l_markStringS_0 p_a p_k) (p_a.length - 0) 0 (p_k, p_a)) (p_a.length - 0) ?_ ?_)))
 ·exact ⟨0, p_k, p_a, rfl, oM, Nat.le_refl _, (sR rfl), h1, (Mut.refl (l := [(lo1, hi1)]) w), Bo, rfl⟩
 ·rintro m19 L20 w21 ⟨k3, x14, x15, rfl, hk22, hsz24, hl25, hf26, hf27, hv28, hI23⟩
  refine CW.sub hl25 ?_
  have hf27z := Mut.size hf27
  have hbg29 := RdS.big (OwnL.rd gS hf26)
  rcases Nat.lt_or_ge k3 p_a.length with hlt31 | hlt31
  ·refine CW.seq (cR (sM rfl (sM rfl (sd rfl (yL un22 rfl rfl (sd rfl (yl_lss rfl rfl rfl (dn ?_))))))))
   refine CW.cond_t rfl (lt_t hlt31) (CW.skip (tn (CW.seq (CW.block (cR (sM rfl (sM rfl ?_)))))))
   refine sM rfl (sd rfl (yC en54 rfl (oc rfl oz) (Cal.mono (c_l_markText x14 Bo) ?_)))
   rintro v33 w32 ⟨rfl, hE34⟩
   have hE34z := Ex.size hE34
   have q36 := OwnL.ex gS hf26 hE34
   obtain ⟨eb37, eo37, _, eA37, _, ebl37, _, eR37, _⟩ := RdS.aD (OwnL.rd gS q36) d_Str (i := k3)
   obtain rfl := eR37
   refine sd rfl (yl_ixN un22 ty9 rfl rfl rfl eA37 ?_)
   have hrg38 := OwnL.rng q36 (i := k3) Bo eb37 (by rw [eA37]; rfl)
   refine SeqR.u rfl rfl (yl_storeF (off := eo37) (i := k3) (d := 0) (dx := d_Str) (x' := (l_markText x14)) (vs := [.string (bs ((l_markText x14)))]) ty9 rfl q36 eA37 rfl rfl rfl rfl rfl Bo (nb rfl) rfl rfl ?_)
   intro w39 hB40 hO41
   have hO41z := hO41.size
   refine dn (CW.region (sM rfl (sd rfl (yl_add rfl rfl rfl (sA rfl (SeqR.done (bn (tn ?_))))))))
   refine CW.region (sM rfl (sd rfl (yl_inc rfl rfl rfl oM (sA rfl (dn ?_)))))
   have hB42 : B_l_markStringS_0 p_a p_k k3 (x14, x15) = .cont (IntKind.wrap .i64 (x14 + 1), (x15.set k3 (l_markText x14))) := by simp only [B_l_markStringS_0, cL]
   exact ⟨p_a.length - (k3 + 1), oM, k3 + 1, IntKind.wrap .i64 (x14 + 1), (x15.set k3 (l_markText x14)), rfl, hlt31, oM, (sR rfl), hB40, (Mut.only (Mut.ex hf27 hE34) hO41 (by simp only [InR, or_false]; omega)), Bo, (loopM.cont hlt31 hB42).symm.trans hI23⟩
  ·refine CW.seq (cR (sM rfl (sM rfl (sd rfl (yL un22 rfl rfl (sd rfl (yl_lss rfl rfl rfl (dn ?_))))))))
   refine CW.cond_f rfl (lt_f hlt31) (CW.exit (tx (tx ?_)))
   have hL45 : loopM (B_l_markStringS_0 p_a p_k) (p_a.length - 0) 0 (p_k, p_a) = .done (x14, x15) := hI23.symm.trans (loopM.stop hlt31)
   refine bx (tn (cR (sM rfl (sA rfl (dn (CW.ret ?_))))))
   refine rr rfl (.cons rfl .nil) ?_
   rw [show (l_markStringS p_a p_k) = ((x14, x15)) by simp only [l_markStringS, hL45, cL]]
   exact ⟨rfl, hf26, hf27⟩
theorem c_l_markIdxS {A1 : Option Addr} {c1 : Nat} {lo1 hi1 : Nat} {w : World} (p_a : List DIdx) (p_k : Int) (h1 : OwnL w lo1 hi1 111 3 (RF e_Idx) A1 p_a.length c1 p_a) (hrn2 : (0 ≤ lo1 ∧ lo1 ≤ hi1 ∧ hi1 ≤ w.heap.size)) (pre0 : p_k ≤ 9223372036854775807) : Cal Tryz.prog 53 #[.slice A1 p_a.length c1, .int .i64 (p_k)] w fun v w' => v = .int .i64 ((l_markIdxS p_a p_k).1) ∧ OwnL w' lo1 hi1 111 3 (RF e_Idx) A1 p_a.length c1 ((l_markIdxS p_a p_k).2) ∧ Mut [(lo1, hi1)] w w' := by
 refine Cal.of func53 rfl ntmps53 rfl (cR (sA rfl (dn (CW.seq (cR ?_)))))
 refine sA rfl (dn (CW.block (CW.loop (fun m28 L29 w30 => ∃ (k3 : Nat) (x26 : Int) (x27 : List DIdx), m28 = p_a.length - k3 ∧ k3 ≤ p_a.length ∧ w.heap.size ≤ w30.heap.size ∧ Sub [(0, .slice A1 p_a.length c1), (1, .int .i64 (x26)), (5, .int .i64 ((k3 : Int)))] L29 ∧ OwnL w30 lo1 hi1 111 3 (RF e_Idx) A1 p_a.length c1 x27 ∧ Mut [(lo1, hi1)] w w30 ∧ x26 ≤ 9223372036854775807 ∧ loopM (B_l_markIdxS_0 p_a p_k) (p_a.length - k3) k3 (x26, x27) = loopM (B_l_markIdxS_0 p_a p_k) (p_a.length - 0) 0 (p_k, p_a)) (p_a.length - 0) ?_ ?_)))
 ·exact ⟨0, p_k, p_a, rfl, oM, Nat.le_refl _, (sR rfl), h1, (Mut.refl (l := [(lo1, hi1)]) w), Bo, rfl⟩
 ·rintro m31 L32 w33 ⟨k3, x26, x27, rfl, hk34, hsz36, hl37, hf38, hf39, hv40, hI35⟩
  refine CW.sub hl37 ?_
  have hf39z := Mut.size hf39
  have hbg41 := RdS.big (OwnL.rd gI hf38)
  rcases Nat.lt_or_ge k3 p_a.length with hlt43 | hlt43
  ·refine CW.seq (cR (sM rfl (sM rfl (sd rfl (yL un37 rfl rfl (sd rfl (yl_lss rfl rfl rfl (dn ?_))))))))
   refine CW.cond_t rfl (lt_t hlt43) (CW.skip (tn (CW.seq (CW.block (cR (sM rfl (sM rfl ?_)))))))
   refine sM rfl (sd rfl (yC en54 rfl (oc rfl oz) (Cal.mono (c_l_markText x26 Bo) ?_)))
   rintro v45 w44 ⟨rfl, hE46⟩
   have hE46z := Ex.size hE46
   have q48 := OwnL.ex gI hf38 hE46
   obtain ⟨eb49, eo49, _, eA49, _, ebl49, _, eR49, _⟩ := RdS.aD (OwnL.rd gI q48) d_Idx (i := k3)
   obtain rfl := eR49
   refine sd rfl (yl_ixN un37 ty111 rfl rfl rfl eA49 (sd rfl (yl_fieldAddr fd111_0 rfl rfl ?_)))
   have hrg50 := OwnL.rng q48 (i := k3) Bo eb49 (by rw [eA49]; rfl)
   refine SeqR.u rfl rfl (yl_storeF (off := eo49) (i := k3) (d := 0) (dx := d_Idx) (x' := (⟨(l_markText x26), (x27.getD k3 d_Idx).Col, (x27.getD k3 d_Idx).Stage⟩ : DIdx)) (vs := [.string (bs ((l_markText x26)))]) ty9 rfl q48 eA49 rfl rfl rfl rfl rfl Bo (nb rfl) rfl rfl ?_)
   intro w51 hB52 hO53
   have hO53z := hO53.size
   refine dn (cR (sM rfl (sd rfl (yl_add rfl rfl rfl (sA rfl (dn ?_))))))
   refine cR (sM rfl (sM rfl (sM rfl ?_)))
   obtain ⟨eb55, eo55, _, eA55, _, ebl55, _, eR55, eC55⟩ := RdS.aD (OwnL.rd gI hB52) d_Idx (i := k3)
   obtain rfl := eR55
   rw [getD_set_self (by have hq := OwnL.len hB52; simp only [List.length_set] at hq; omega)] at eC55
   have eC55 : Cells w51 eb55 (eo55 + k3 * 3) [.string (bs ((l_markText x26))), .int .i64 ((x27.getD k3 d_Idx).Col), .int .i64 ((x27.getD k3 d_Idx).Stage)] := eC55
   refine sd rfl (yl_ixN un37 ty111 rfl rfl rfl eA55 (sd rfl (yl_fieldAddr fd111_1 rfl rfl ?_)))
   have hrg56 := OwnL.rng hB52 (i := k3) Bo eb55 (by rw [eA55]; rfl)
   refine SeqR.u rfl rfl (yl_storeF (off := eo55) (i := k3) (d := 1) (dx := d_Idx) (x' := (⟨(l_markText x26), IntKind.wrap .i64 (x26 + 1), (x27.getD k3 d_Idx).Stage⟩ : DIdx)) (vs := [.int .i64 (IntKind.wrap .i64 (x26 + 1))]) ty3 rfl hB52 eA55 rfl rfl rfl rfl rfl Bo (nb rfl) (by rw [getD_set_self (by have hq := OwnL.len hB52; simp only [List.length_set] at hq; omega)]; rfl) rfl ?_)
   intro w57 hB58 hO59
   have hO59z := hO59.size
   rw [List.set_set] at hB58
   refine dn (cR (sM rfl (sd rfl (yl_add rfl rfl rfl (sA rfl (dn ?_))))))
   refine cR (sM rfl (sM rfl (sM rfl ?_)))
   obtain ⟨eb61, eo61, _, eA61, _, ebl61, _, eR61, eC61⟩ := RdS.aD (OwnL.rd gI hB58) d_Idx (i := k3)
   obtain rfl := eR61
   rw [getD_set_self (by have hq := OwnL.len hB58; simp only [List.length_set] at hq; omega)] at eC61
   have eC61 : Cells w57 eb61 (eo61 + k3 * 3) [.string (bs ((l_markText x26))), .int .i64 (IntKind.wrap .i64 (x26 + 1)), .int .i64 ((x27.getD k3 d_Idx).Stage)] := eC61
   refine sd rfl (yl_ixN un37 ty111 rfl rfl rfl eA61 (sd rfl (yl_fieldAddr fd111_2 rfl rfl ?_)))
   have hrg62 := OwnL.rng hB58 (i := k3) Bo eb61 (by rw [eA61]; rfl)
   refine SeqR.u rfl rfl (yl_storeF (off := eo61) (i := k3) (d := 2) (dx := d_Idx) (x' := (⟨(l_markText x26), IntKind.wrap .i64 (x26 + 1), IntKind.wrap .i64 ((IntKind.wrap .i64 (x26 + 1)) + 1)⟩ : DIdx)) (vs := [.int .i64 (IntKind.wrap .i64 ((IntKind.wrap .i64 (x26 + 1)) + 1))]) ty3 rfl hB58 eA61 rfl rfl rfl rfl rfl Bo (nb rfl) (by rw [getD_set_self (by have hq := OwnL.len hB58; simp only [List.length_set] at hq; omega)]; rfl) rfl ?_)
   intro w63 hB64 hO65
   have hO65z := hO65.size
   rw [List.set_set] at hB64
   refine dn (CW.region (sM rfl (sd rfl (yl_add rfl rfl rfl (sA rfl (SeqR.done (bn (tn ?_))))))))
   refine CW.region (sM rfl (sd rfl (yl_inc rfl rfl rfl oM (sA rfl (dn ?_)))))
   have hB66 : B_l_markIdxS_0 p_a p_k k3 (x26, x27) = .cont (IntKind.wrap .i64 ((IntKind.wrap .i64 ((IntKind.wrap .i64 (x26 + 1)) + 1)) + 1), (x27.set k3 (⟨(l_markText x26), IntKind.wrap .i64 (x26 + 1), IntKind.wrap .i64 ((IntKind.wrap .i64 (x26 + 1)) + 1)⟩ : DIdx))) := by simp only [B_l_markIdxS_0, cL]
   exact ⟨p_a.length - (k3 + 1), oM, k3 + 1, IntKind.wrap .i64 ((IntKind.wrap .i64 ((IntKind.wrap .i64 (x26 + 1)) + 1)) + 1), (x27.set k3 (⟨(l_markText x26), IntKind.wrap .i64 (x26 + 1), IntKind.wrap .i64 ((IntKind.wrap .i64 (x26 + 1)) + 1)⟩ : DIdx)), rfl, hlt43, oM, (sR rfl), hB64, (Mut.only (Mut.only (Mut.only (Mut.ex hf39 hE46) hO53 (by simp only [InR, or_false]; omega)) hO59 (by simp only [InR, or_false]; omega)) hO65 (by simp only [InR, or_false]; omega)), Bo, (loopM.cont hlt43 hB66).symm.trans hI35⟩
  ·refine CW.seq (cR (sM rfl (sM rfl (sd rfl (yL un37 rfl rfl (sd rfl (yl_lss rfl rfl rfl (dn ?_))))))))
   refine CW.cond_f rfl (lt_f hlt43) (CW.exit (tx (tx ?_)))
   have hL71 : loopM (B_l_markIdxS_0 p_a p_k) (p_a.length - 0) 0 (p_k, p_a) = .done (x26, x27) := hI35.symm.trans (loopM.stop hlt43)
   refine bx (tn (cR (sM rfl (sA rfl (dn (CW.ret ?_))))))
   refine rr rfl (.cons rfl .nil) ?_
   rw [show (l_markIdxS p_a p_k) = ((x26, x27)) by simp only [l_markIdxS, hL71, cL]]
   exact ⟨rfl, hf38, hf39⟩
theorem c_l_markTable {A1 : Option Addr} {c1 : Nat} {lo1 hi1 : Nat} {A2 : Option Addr} {c2 : Nat} {lo2 hi2 : Nat} {w : World} (p_a : DTable) (p_k : Int) (h1 : OwnL w lo1 hi1 9 1 (RF e_Str) A1 p_a.Cols.length c1 p_a.Cols) (h2 : OwnL w lo2 hi2 111 3 (RF e_Idx) A2 p_a.Idxs.length c2 p_a.Idxs) (hrn3 : (0 ≤ lo1 ∧ lo1 ≤ hi1 ∧ hi1 ≤ w.heap.size)) (hrn4 : (0 ≤ lo2 ∧ lo2 ≤ hi2 ∧ hi2 ≤ w.heap.size)) (hrn5 : (hi1 ≤ lo2 ∨ hi2 ≤ lo1)) (pre0 : p_k ≤ 9223372036854775807) : Cal Tryz.prog 18 #[.agg #[.string (bs (p_a.Name)), .slice A1 p_a.Cols.length c1, .slice A2 p_a.Idxs.length c2], .int .i64 (p_k)] w fun v w' => v = .int .i64 ((l_markTable p_a p_k).1) ∧ OwnL w' lo1 hi1 9 1 (RF e_Str) A1 p_a.Cols.length c1 ((l_markTable p_a p_k).2.Cols) ∧ OwnL w' lo2 hi2 111 3 (RF e_Idx) A2 p_a.Idxs.length c2 ((l_markTable p_a p_k).2.Idxs) ∧ Mut [(lo1, hi1), (lo2, hi2)] w w' := by
 refine Cal.of func18 rfl ntmps18 rfl (cR (sd rfl (yl_box rfl rfl rfl ?_)))
 intro b6 w7 hs8 hz9 hB10 hE11
 refine sA rfl (dn (cR (sd rfl (yl_fieldAddr fd39_1 rfl rfl (sd rfl (yl_load1 ty22 rfl rfl ((hB10.cell 1).trans rfl) (sM rfl (sd rfl (yC en34 rfl (oc rfl (oc rfl oz)) (Cal.mono (c_l_markStringS p_a.Cols p_k (OwnL.ex gS h1 hE11) oM Bo) ?_))))))))))
 rintro v14 w13 ⟨rfl, h16, hm15⟩
 have hm15z := Mut.size hm15
 have hrf17 := rf_markStringS p_a.Cols p_k Bo
 refine sA rfl (dn (cR (sd rfl (yl_fieldAddr fd39_2 rfl rfl (sd rfl (yl_load1 ty37 rfl rfl (((Box.mut hB10 hm15 kR).cell 2).trans rfl) (sM rfl (sd rfl (yC en53 rfl (oc rfl (oc rfl oz)) (Cal.mono (c_l_markIdxS p_a.Idxs ((l_markStringS p_a.Cols p_k).1) (OwnL.mut gI (OwnL.ex gI h2 hE11) hm15 kR) oM Bo) ?_))))))))))
 rintro v22 w21 ⟨rfl, h24, hm23⟩
 have hm23z := Mut.size hm23
 have hrf25 := rf_markIdxS p_a.Idxs ((l_markStringS p_a.Cols p_k).1) Bo
 refine sA rfl (dn (cR (sM rfl (sA rfl (dn ?_)))))
 refine CW.ret (rr rfl (.cons rfl .nil) ?_)
 rw [show (l_markTable p_a p_k) = (((l_markIdxS p_a.Idxs ((l_markStringS p_a.Cols p_k).1)).1, (⟨p_a.Name, (l_markStringS p_a.Cols p_k).2, (l_markIdxS p_a.Idxs ((l_markStringS p_a.Cols p_k).1)).2⟩ : DTable))) by simp only [l_markTable, cL]]
 exact ⟨rfl, (OwnL.mut gS h16 hm23 kR), h24, (Mut.mut (Mut.mut (Mut.ex (Mut.refl (l := [(lo1, hi1), (lo2, hi2)]) w) hE11) hm15 (fun k hk => by simp only [InR, or_false] at hk ⊢; omega)) hm23 (fun k hk => by simp only [InR, or_false] at hk ⊢; omega))⟩
theorem c_l_markWriteS {A1 : Option Addr} {c1 : Nat} {lo1 hi1 : Nat} {w : World} (p_a : List DWrite) (p_k : Int) (h1 : OwnL w lo1 hi1 80 3 (RF e_Write) A1 p_a.length c1 p_a) (hrn2 : (0 ≤ lo1 ∧ lo1 ≤ hi1 ∧ hi1 ≤ w.heap.size)) (pre0 : p_k ≤ 9223372036854775807) : Cal Tryz.prog 19 #[.slice A1 p_a.length c1, .int .i64 (p_k)] w fun v w' => v = .int .i64 ((l_markWriteS p_a p_k).1) ∧ OwnL w' lo1 hi1 80 3 (RF e_Write) A1 p_a.length c1 ((l_markWriteS p_a p_k).2) ∧ Mut [(lo1, hi1)] w w' := by
 refine Cal.of func19 rfl ntmps19 rfl (cR (sA rfl (dn (CW.seq (cR ?_)))))
 refine sA rfl (dn (CW.block (CW.loop (fun m31 L32 w33 => ∃ (k3 : Nat) (x29 : Int) (x30 : List DWrite), m31 = p_a.length - k3 ∧ k3 ≤ p_a.length ∧ w.heap.size ≤ w33.heap.size ∧ Sub [(0, .slice A1 p_a.length c1), (1, .int .i64 (x29)), (5, .int .i64 ((k3 : Int)))] L32 ∧ OwnL w33 lo1 hi1 80 3 (RF e_Write) A1 p_a.length c1 x30 ∧ Mut [(lo1, hi1)] w w33 ∧ x29 ≤ 9223372036854775807 ∧ loopM (B_l_markWriteS_0 p_a p_k) (p_a.length - k3) k3 (x29, x30) = loopM (B_l_markWriteS_0 p_a p_k) (p_a.length - 0) 0 (p_k, p_a)) (p_a.length - 0) ?_ ?_)))
 ·exact ⟨0, p_k, p_a, rfl, oM, Nat.le_refl _, (sR rfl), h1, (Mut.refl (l := [(lo1, hi1)]) w), Bo, rfl⟩
 ·rintro m34 L35 w36 ⟨k3, x29, x30, rfl, hk37, hsz39, hl40, hf41, hf42, hv43, hI38⟩
  refine CW.sub hl40 ?_
  have hf42z := Mut.size hf42
  have hbg44 := RdS.big (OwnL.rd gW hf41)
  rcases Nat.lt_or_ge k3 p_a.length with hlt46 | hlt46
  ·refine CW.seq (cR (sM rfl (sM rfl (sd rfl (yL un34 rfl rfl (sd rfl (yl_lss rfl rfl rfl (dn ?_))))))))
   refine CW.cond_t rfl (lt_t hlt46) (CW.skip (tn (CW.seq (CW.block (cR (sM rfl (sM rfl ?_)))))))
   refine sM rfl (sd rfl (yC en54 rfl (oc rfl oz) (Cal.mono (c_l_markText x29 Bo) ?_)))
   rintro v48 w47 ⟨rfl, hE49⟩
   have hE49z := Ex.size hE49
   have q51 := OwnL.ex gW hf41 hE49
   obtain ⟨eb52, eo52, _, eA52, _, ebl52, _, eR52, _⟩ := RdS.aD (OwnL.rd gW q51) d_Write (i := k3)
   obtain rfl := eR52
   refine sd rfl (yl_ixN un34 ty80 rfl rfl rfl eA52 (sd rfl (yl_fieldAddr fd80_0 rfl rfl ?_)))
   have hrg53 := OwnL.rng q51 (i := k3) Bo eb52 (by rw [eA52]; rfl)
   refine SeqR.u rfl rfl (yl_storeF (off := eo52) (i := k3) (d := 0) (dx := d_Write) (x' := (⟨(l_markText x29), (x30.getD k3 d_Write).Val, (x30.getD k3 d_Write).Gone⟩ : DWrite)) (vs := [.string (bs ((l_markText x29)))]) ty9 rfl q51 eA52 rfl rfl rfl rfl rfl Bo (nb rfl) rfl rfl ?_)
   intro w54 hB55 hO56
   have hO56z := hO56.size
   refine dn (cR (sM rfl (sd rfl (yl_add rfl rfl rfl (sA rfl (dn ?_))))))
   refine cR (sM rfl (sM rfl (sM rfl (sd rfl (yC en54 rfl (oc rfl oz) (Cal.mono (c_l_markText (IntKind.wrap .i64 (x29 + 1)) Bo) ?_))))))
   rintro v58 w57 ⟨rfl, hE59⟩
   have hE59z := Ex.size hE59
   have q61 := OwnL.ex gW hB55 hE59
   obtain ⟨eb62, eo62, _, eA62, _, ebl62, _, eR62, eC62⟩ := RdS.aD (OwnL.rd gW q61) d_Write (i := k3)
   obtain rfl := eR62
   rw [getD_set_self (by have hq := OwnL.len q61; simp only [List.length_set] at hq; omega)] at eC62
   have eC62 : Cells w57 eb62 (eo62 + k3 * 3) [.string (bs ((l_markText x29))), .string (bs ((x30.getD k3 d_Write).Val)), .bool ((x30.getD k3 d_Write).Gone)] := eC62
   refine sd rfl (yl_ixN un34 ty80 rfl rfl rfl eA62 (sd rfl (yl_fieldAddr fd80_1 rfl rfl ?_)))
   have hrg63 := OwnL.rng q61 (i := k3) Bo eb62 (by rw [eA62]; rfl)
   refine SeqR.u rfl rfl (yl_storeF (off := eo62) (i := k3) (d := 1) (dx := d_Write) (x' := (⟨(l_markText x29), (l_markText (IntKind.wrap .i64 (x29 + 1))), (x30.getD k3 d_Write).Gone⟩ : DWrite)) (vs := [.string (bs ((l_markText (IntKind.wrap .i64 (x29 + 1)))))]) ty9 rfl q61 eA62 rfl rfl rfl rfl rfl Bo (nb rfl) (by rw [getD_set_self (by have hq := OwnL.len q61; simp only [List.length_set] at hq; omega)]; rfl) rfl ?_)
   intro w64 hB65 hO66
   have hO66z := hO66.size
   rw [List.set_set] at hB65
   refine dn (cR (sM rfl (sd rfl (yl_add rfl rfl rfl (sA rfl (dn ?_))))))
   refine cR (sM rfl (sM rfl (sM rfl (sd rfl (yl_rem rfl rfl rfl (by decide) (sd rfl (yl_eql rfl rfl rfl ?_)))))))
   obtain ⟨eb68, eo68, _, eA68, _, ebl68, _, eR68, eC68⟩ := RdS.aD (OwnL.rd gW hB65) d_Write (i := k3)
   obtain rfl := eR68
   rw [getD_set_self (by have hq := OwnL.len hB65; simp only [List.length_set] at hq; omega)] at eC68
   have eC68 : Cells w64 eb68 (eo68 + k3 * 3) [.string (bs ((l_markText x29))), .string (bs ((l_markText (IntKind.wrap .i64 (x29 + 1))))), .bool ((x30.getD k3 d_Write).Gone)] := eC68
   refine sd rfl (yl_ixN un34 ty80 rfl rfl rfl eA68 (sd rfl (yl_fieldAddr fd80_2 rfl rfl ?_)))
   have hrg69 := OwnL.rng hB65 (i := k3) Bo eb68 (by rw [eA68]; rfl)
   refine SeqR.u rfl rfl (yl_storeF (off := eo68) (i := k3) (d := 2) (dx := d_Write) (x' := (⟨(l_markText x29), (l_markText (IntKind.wrap .i64 (x29 + 1))), decide ((Int.tmod (IntKind.wrap .i64 ((IntKind.wrap .i64 (x29 + 1)) + 1)) 3) = 0)⟩ : DWrite)) (vs := [.bool (decide ((Int.tmod (IntKind.wrap .i64 ((IntKind.wrap .i64 (x29 + 1)) + 1)) 3) = 0))]) ty4 rfl hB65 eA68 rfl rfl rfl rfl rfl Bo (nb rfl) (by rw [getD_set_self (by have hq := OwnL.len hB65; simp only [List.length_set] at hq; omega)]; rfl) rfl ?_)
   intro w70 hB71 hO72
   have hO72z := hO72.size
   rw [List.set_set] at hB71
   refine dn (CW.region (sM rfl (sd rfl (yl_add rfl rfl rfl (sA rfl (SeqR.done (bn (tn ?_))))))))
   refine CW.region (sM rfl (sd rfl (yl_inc rfl rfl rfl oM (sA rfl (dn ?_)))))
   have hB73 : B_l_markWriteS_0 p_a p_k k3 (x29, x30) = .cont (IntKind.wrap .i64 ((IntKind.wrap .i64 ((IntKind.wrap .i64 (x29 + 1)) + 1)) + 1), (x30.set k3 (⟨(l_markText x29), (l_markText (IntKind.wrap .i64 (x29 + 1))), decide ((Int.tmod (IntKind.wrap .i64 ((IntKind.wrap .i64 (x29 + 1)) + 1)) 3) = 0)⟩ : DWrite))) := by simp only [B_l_markWriteS_0, cL]
   exact ⟨p_a.length - (k3 + 1), oM, k3 + 1, IntKind.wrap .i64 ((IntKind.wrap .i64 ((IntKind.wrap .i64 (x29 + 1)) + 1)) + 1), (x30.set k3 (⟨(l_markText x29), (l_markText (IntKind.wrap .i64 (x29 + 1))), decide ((Int.tmod (IntKind.wrap .i64 ((IntKind.wrap .i64 (x29 + 1)) + 1)) 3) = 0)⟩ : DWrite)), rfl, hlt46, oM, (sR rfl), hB71, (Mut.only (Mut.only (Mut.ex (Mut.only (Mut.ex hf42 hE49) hO56 (by simp only [InR, or_false]; omega)) hE59) hO66 (by simp only [InR, or_false]; omega)) hO72 (by simp only [InR, or_false]; omega)), Bo, (loopM.cont hlt46 hB73).symm.trans hI38⟩
  ·refine CW.seq (cR (sM rfl (sM rfl (sd rfl (yL un34 rfl rfl (sd rfl (yl_lss rfl rfl rfl (dn ?_))))))))
   refine CW.cond_f rfl (lt_f hlt46) (CW.exit (tx (tx ?_)))
   have hL79 : loopM (B_l_markWriteS_0 p_a p_k) (p_a.length - 0) 0 (p_k, p_a) = .done (x29, x30) := hI38.symm.trans (loopM.stop hlt46)
   refine bx (tn (cR (sM rfl (sA rfl (dn (CW.ret ?_))))))
   refine rr rfl (.cons rfl .nil) ?_
   rw [show (l_markWriteS p_a p_k) = ((x29, x30)) by simp only [l_markWriteS, hL79, cL]]
   exact ⟨rfl, hf41, hf42⟩
theorem c_l_markRow {A1 : Option Addr} {c1 : Nat} {lo1 hi1 : Nat} {w : World} (p_a : DRow) (p_k : Int) (h1 : OwnL w lo1 hi1 9 1 (RF e_Str) A1 p_a.Vals.length c1 p_a.Vals) (hrn2 : (0 ≤ lo1 ∧ lo1 ≤ hi1 ∧ hi1 ≤ w.heap.size)) (pre0 : p_k ≤ 9223372036854775807) : Cal Tryz.prog 55 #[.agg #[.slice A1 p_a.Vals.length c1], .int .i64 (p_k)] w fun v w' => v = .int .i64 ((l_markRow p_a p_k).1) ∧ OwnL w' lo1 hi1 9 1 (RF e_Str) A1 p_a.Vals.length c1 ((l_markRow p_a p_k).2.Vals) ∧ Mut [(lo1, hi1)] w w' := by
 refine Cal.of func55 rfl ntmps55 rfl (cR (sd rfl (yl_box rfl rfl rfl ?_)))
 intro b3 w4 hs5 hz6 hB7 hE8
 refine sA rfl (dn (cR (sd rfl (yl_fieldAddr fd42_0 rfl rfl (sd rfl (yl_load1 ty22 rfl rfl ((hB7.cell 0).trans rfl) (sM rfl (sd rfl (yC en34 rfl (oc rfl (oc rfl oz)) (Cal.mono (c_l_markStringS p_a.Vals p_k (OwnL.ex gS h1 hE8) oM Bo) ?_))))))))))
 rintro v11 w10 ⟨rfl, h13, hm12⟩
 have hm12z := Mut.size hm12
 have hrf14 := rf_markStringS p_a.Vals p_k Bo
 refine sA rfl (dn (cR (sM rfl (sA rfl (dn ?_)))))
 refine CW.ret (rr rfl (.cons rfl .nil) ?_)
 rw [show (l_markRow p_a p_k) = (((l_markStringS p_a.Vals p_k).1, (⟨(l_markStringS p_a.Vals p_k).2⟩ : DRow))) by simp only [l_markRow, cL]]
 exact ⟨rfl, h13, (Mut.mut (Mut.ex (Mut.refl (l := [(lo1, hi1)]) w) hE8) hm12 (fun k hk => by simp only [InR, or_false] at hk ⊢; omega))⟩
theorem c_l_markRowAct {A1 : Option Addr} {c1 : Nat} {lo1 hi1 : Nat} {A2 : Option Addr} {c2 : Nat} {lo2 hi2 : Nat} {w : World} (p_a : DRowAct) (p_k : Int) (h1 : OwnL w lo1 hi1 9 1 (RF e_Str) A1 p_a.Old.Vals.length c1 p_a.Old.Vals) (h2 : OwnL w lo2 hi2 9 1 (RF e_Str) A2 p_a.New.Vals.length c2 p_a.New.Vals) (hrn3 : (0 ≤ lo1 ∧ lo1 ≤ hi1 ∧ hi1 ≤ w.heap.size)) (hrn4 : (0 ≤ lo2 ∧ lo2 ≤ hi2 ∧ hi2 ≤ w.heap.size)) (hrn5 : (hi1 ≤ lo2 ∨ hi2 ≤ lo1)) (pre0 : p_k ≤ 9223372036854775807) : Cal Tryz.prog 20 #[.agg #[.int .i64 (p_a.Kind), .slice A1 p_a.Old.Vals.length c1, .slice A2 p_a.New.Vals.length c2], .int .i64 (p_k)] w fun v w' => v = .int .i64 ((l_markRowAct p_a p_k).1) ∧ OwnL w' lo1 hi1 9 1 (RF e_Str) A1 p_a.Old.Vals.length c1 ((l_markRowAct p_a p_k).2.Old.Vals) ∧ OwnL w' lo2 hi2 9 1 (RF e_Str) A2 p_a.New.Vals.length c2 ((l_markRowAct p_a p_k).2.New.Vals) ∧ Mut [(lo1, hi1), (lo2, hi2)] w w' := by
 refine Cal.of func20 rfl ntmps20 rfl (cR (sd rfl (yl_box rfl rfl rfl ?_)))
 intro b6 w7 hs8 hz9 hB10 hE11
 refine sA rfl (dn (cR (sd rfl (yl_fieldAddr fd44_1 rfl rfl (sd rfl (yl_loadN ty42 rfl rfl (hB10.cells (n := 1) rfl) rfl (sM rfl (sd rfl (yC en55 rfl (oc rfl (oc rfl oz)) (Cal.mono (c_l_markRow p_a.Old p_k (OwnL.ex gS h1 hE11) oM Bo) ?_))))))))))
 rintro v14 w13 ⟨rfl, h16, hm15⟩
 have hm15z := Mut.size hm15
 have hrf17 := rf_markRow p_a.Old p_k Bo
 refine sA rfl (dn (cR (sd rfl (yl_fieldAddr fd44_2 rfl rfl (sd rfl (yl_loadN ty42 rfl rfl ((Box.mut hB10 hm15 kR).cells (n := 1) rfl) rfl (sM rfl (sd rfl (yC en55 rfl (oc rfl (oc rfl oz)) (Cal.mono (c_l_markRow p_a.New ((l_markRow p_a.Old p_k).1) (OwnL.mut gS (OwnL.ex gS h2 hE11) hm15 kR) oM Bo) ?_))))))))))
 rintro v22 w21 ⟨rfl, h24, hm23⟩
 have hm23z := Mut.size hm23
 have hrf25 := rf_markRow p_a.New ((l_markRow p_a.Old p_k).1) Bo
 refine sA rfl (dn (cR (sM rfl (sA rfl (dn ?_)))))
 refine CW.ret (rr rfl (.cons rfl .nil) ?_)
 rw [show (l_markRowAct p_a p_k) = (((l_markRow p_a.New ((l_markRow p_a.Old p_k).1)).1, (⟨p_a.Kind, (l_markRow p_a.Old p_k).2, (l_markRow p_a.New ((l_markRow p_a.Old p_k).1)).2⟩ : DRowAct))) by simp only [l_markRowAct, cL]]
 exact ⟨rfl, (OwnL.mut gS h16 hm23 kR), h24, (Mut.mut (Mut.mut (Mut.ex (Mut.refl (l := [(lo1, hi1), (lo2, hi2)]) w) hE11) hm15 (fun k hk => by simp only [InR, or_false] at hk ⊢; omega)) hm23 (fun k hk => by simp only [InR, or_false] at hk ⊢; omega))⟩
theorem c_l_heldWriteS {A1 : Option Addr} {c1 : Nat} {w : World} (p_a : List DWrite) (p_k : Int) (h1 : RdS w (Iv 0 w.heap.size) (RF e_Write) 3 A1 p_a.length c1 p_a) (pre0 : p_k ≤ 9223372036854775807) : Cal Tryz.prog 21 #[.slice A1 p_a.length c1, .int .i64 (p_k)] w fun v w' => v = .int .i64 ((l_heldWriteS p_a p_k)) ∧ Ex w w' := by
 refine Cal.of func21 rfl ntmps21 rfl (cR (sA rfl (dn (CW.seq (cR ?_)))))
 refine sA rfl (dn (CW.block (CW.loop (fun m4 L5 w6 => ∃ (k2 : Nat) (x3 : Int), m4 = p_a.length - k2 ∧ k2 ≤ p_a.length ∧ w.heap.size ≤ w6.heap.size ∧ Sub [(0, .slice A1 p_a.length c1), (1, .int .i64 (x3)), (5, .int .i64 ((k2 : Int)))] L5 ∧ RdS w6 (Iv 0 w.heap.size) (RF e_Write) 3 A1 p_a.length c1 p_a ∧ Ex w w6 ∧ x3 ≤ 9223372036854775807 ∧ loopM (B_l_heldWriteS_0 p_a p_k) (p_a.length - k2) k2 (x3) = loopM (B_l_heldWriteS_0 p_a p_k) (p_a.length - 0) 0 (p_k)) (p_a.length - 0) ?_ ?_)))
 ·exact ⟨0, p_k, rfl, oM, Nat.le_refl _, (sR rfl), h1, (Ex.refl w), Bo, rfl⟩
 ·rintro m7 L8 w9 ⟨k2, x3, rfl, hk10, hsz12, hl13, hf14, hf15, hv16, hI11⟩
  refine CW.sub hl13 ?_
  have hf15z := Ex.size hf15
  have hbg17 := RdS.big hf14
  rcases Nat.lt_or_ge k2 p_a.length with hlt18 | hlt18
  ·refine CW.seq (cR (sM rfl (sM rfl (sd rfl (yL un34 rfl rfl (sd rfl (yl_lss rfl rfl rfl (dn ?_))))))))
   refine CW.cond_t rfl (lt_t hlt18) (CW.skip (tn (CW.seq (CW.block (CW.seq (CW.seq ?_))))))
   obtain ⟨eb19, eo19, _, eA19, _, ebl19, _, eR19, eC19⟩ := RdS.aD hf14 d_Write (i := k2)
   obtain rfl := eR19
   refine drJ 8 [.slice A1 p_a.length c1, .int .i64 ((k2 : Int)), .pointer (some ⟨eb19, eo19 + k2 * 3, none⟩), .pointer (some ⟨eb19, eo19 + k2 * 3 + 0, none⟩), .string (bs ((p_a.getD k2 d_Write).Key)), .int .i64 (x3), .string (bs ((l_markText x3))), .bool (!(((p_a.getD k2 d_Write).Key) == (l_markText x3)))] Tryz.follows rfl ⟨oI rfl fun h => yM rfl (h.g 0 rfl) kI, oI rfl fun h => yM rfl (h.g 5 rfl) kI, ?_, oI rfl fun h => yl_fieldAddr fd80_0 rfl (h.g 14 rfl) kI, oI rfl fun h => yl_load1 ty9 rfl (h.g 15 rfl) ((Cells.ex eC19 h.ex) 0 _ rfl) kI, oI rfl fun h => yM rfl (h.g 1 rfl) kI, ?_, oI rfl fun h => yl_sneq (a := ((p_a.getD k2 d_Write).Key)) (b := (l_markText x3)) rfl (h.g 16 rfl) (h.g 18 rfl) kI, trivial⟩ ?_
   ·intro L31 w32 hi33
    have hE34 := hi33.ex
    have hE34z := Ex.size hE34
    exact os rfl ((yl_ixN un34 ty80 rfl (hi33.g 12 rfl) (hi33.g 13 rfl) eA19 kI))
   ·intro L53 w54 hi55
    have hE56 := hi55.ex
    have hE56z := Ex.size hE56
    exact OpR.op' rfl (yC en54 rfl (oc (hi55.g 17 rfl) oz) (Cal.mono (c_l_markText x3 Bo) fun _ _ h => h))
   ·intro fl70 fh71 L67 w68 hp69
    have hE72 := hp69.ex
    have hE72z := Ex.size hE72
    refine dn (CW.sub (hp69.ss [0, 1, 5, 19] rfl) (bcase (((p_a.getD k2 d_Write).Key) == (l_markText x3)) (fun hb77 => ?_) (fun hb77 => ?_)))
    ·refine CW.cond_f rfl (not_t hb77) (CW.skip (tn (cR (sM rfl (sd rfl (yl_add rfl rfl rfl (sA rfl (SeqR.done ?_))))))))
     refine tn (CW.seq (CW.seq ?_))
     have q78 := Cells.ex eC19 hE72
     refine drJ 8 [.slice A1 p_a.length c1, .int .i64 ((k2 : Int)), .pointer (some ⟨eb19, eo19 + k2 * 3, none⟩), .pointer (some ⟨eb19, eo19 + k2 * 3 + 1, none⟩), .string (bs ((p_a.getD k2 d_Write).Val)), .int .i64 (IntKind.wrap .i64 (x3 + 1)), .string (bs ((l_markText (IntKind.wrap .i64 (x3 + 1))))), .bool (!(((p_a.getD k2 d_Write).Val) == (l_markText (IntKind.wrap .i64 (x3 + 1)))))] Tryz.follows rfl ⟨oI rfl fun h => yM rfl (h.g 0 rfl) kI, oI rfl fun h => yM rfl (h.g 5 rfl) kI, ?_, oI rfl fun h => yl_fieldAddr fd80_1 rfl (h.g 24 rfl) kI, oI rfl fun h => yl_load1 ty9 rfl (h.g 25 rfl) ((Cells.ex q78 h.ex) 1 _ rfl) kI, oI rfl fun h => yM rfl (h.g 1 rfl) kI, ?_, oI rfl fun h => yl_sneq (a := ((p_a.getD k2 d_Write).Val)) (b := (l_markText (IntKind.wrap .i64 (x3 + 1)))) rfl (h.g 26 rfl) (h.g 28 rfl) kI, trivial⟩ ?_
     ·intro L90 w91 hi92
      have hE93 := hi92.ex
      have hE93z := Ex.size hE93
      exact os rfl ((yl_ixN un34 ty80 rfl (hi92.g 22 rfl) (hi92.g 23 rfl) eA19 kI))
     ·intro L112 w113 hi114
      have hE115 := hi114.ex
      have hE115z := Ex.size hE115
      exact OpR.op' rfl (yC en54 rfl (oc (hi114.g 27 rfl) oz) (Cal.mono (c_l_markText (IntKind.wrap .i64 (x3 + 1)) Bo) fun _ _ h => h))
     ·intro fl129 fh130 L126 w127 hp128
      have hE131 := hp128.ex
      have hE131z := Ex.size hE131
      refine dn (CW.sub (hp128.ss [0, 1, 5, 29] rfl) (bcase (((p_a.getD k2 d_Write).Val) == (l_markText (IntKind.wrap .i64 (x3 + 1)))) (fun hb136 => ?_) (fun hb136 => ?_)))
      ·refine CW.cond_f rfl (not_t hb136) (CW.skip (tn (cR (sM rfl (sd rfl (yl_add rfl rfl rfl (sA rfl (SeqR.done ?_))))))))
       refine tn (CW.seq (cR (sM rfl (sM rfl (sd rfl (yl_ixN un34 ty80 rfl rfl rfl eA19 (sd rfl (yl_fieldAddr fd80_2 rfl rfl (sd rfl (yl_load1 ty4 rfl rfl ((Cells.ex q78 hE131) 2 _ rfl) ?_))))))))))
       refine sM rfl (sd rfl (yl_rem rfl rfl rfl (by decide) (sd rfl (yl_eql rfl rfl rfl (sd rfl (yl_bneq un4 rfl rfl rfl (dn (bcase (((p_a.getD k2 d_Write).Gone) == (decide ((Int.tmod (IntKind.wrap .i64 ((IntKind.wrap .i64 (x3 + 1)) + 1)) 3) = 0))) (fun hb138 => ?_) (fun hb138 => ?_)))))))))
       ·refine CW.cond_f rfl (not_t hb138) (CW.skip (tn (CW.region (sM rfl (sd rfl (yl_add rfl rfl rfl (sA rfl (SeqR.done (bn ?_)))))))))
        refine tn (CW.region (sM rfl (sd rfl (yl_inc rfl rfl rfl oM (sA rfl (dn ?_))))))
        have hB139 : B_l_heldWriteS_0 p_a p_k k2 (x3) = .cont (IntKind.wrap .i64 ((IntKind.wrap .i64 ((IntKind.wrap .i64 (x3 + 1)) + 1)) + 1)) := by simp only [B_l_heldWriteS_0, hb77, hb136, hb138, cL]
        exact ⟨p_a.length - (k2 + 1), oM, k2 + 1, IntKind.wrap .i64 ((IntKind.wrap .i64 ((IntKind.wrap .i64 (x3 + 1)) + 1)) + 1), rfl, hlt18, oM, (sR rfl), (RdS.ex gW (RdS.ex gW hf14 hE72) hE131), (Ex.trans (Ex.trans hf15 hE72) hE131), Bo, (loopM.cont hlt18 hB139).symm.trans hI11⟩
       ·refine CW.cond_t rfl (not_f hb138) (cR (sA rfl (dn (CW.ret (tr (br ?_))))))
        refine tr (tr ?_)
        have hB145 : B_l_heldWriteS_0 p_a p_k k2 (x3) = .ret (-1) := by simp only [B_l_heldWriteS_0, hb77, hb136, hb138, cL]
        have hL144 : loopM (B_l_heldWriteS_0 p_a p_k) (p_a.length - 0) 0 (p_k) = .ret (-1) := hI11.symm.trans (loopM.ret hlt18 hB145)
        refine br (tr (rr rfl (.cons rfl .nil) ?_))
        rw [show (l_heldWriteS p_a p_k) = (-1) by simp only [l_heldWriteS, hb77, hb136, hb138, hL144, cL]]
        exact ⟨rfl, (Ex.trans (Ex.trans hf15 hE72) hE131)⟩
      ·refine CW.cond_t rfl (not_f hb136) (cR (sA rfl (dn (CW.ret (tr (br ?_))))))
       refine tr (tr ?_)
       have hB150 : B_l_heldWriteS_0 p_a p_k k2 (x3) = .ret (-1) := by simp only [B_l_heldWriteS_0, hb77, hb136, cL]
       have hL149 : loopM (B_l_heldWriteS_0 p_a p_k) (p_a.length - 0) 0 (p_k) = .ret (-1) := hI11.symm.trans (loopM.ret hlt18 hB150)
       refine br (tr (rr rfl (.cons rfl .nil) ?_))
       rw [show (l_heldWriteS p_a p_k) = (-1) by simp only [l_heldWriteS, hb77, hb136, hL149, cL]]
       exact ⟨rfl, (Ex.trans (Ex.trans hf15 hE72) hE131)⟩
    ·refine CW.cond_t rfl (not_f hb77) (cR (sA rfl (dn (CW.ret (tr (br ?_))))))
     refine tr (tr ?_)
     have hB155 : B_l_heldWriteS_0 p_a p_k k2 (x3) = .ret (-1) := by simp only [B_l_heldWriteS_0, hb77, cL]
     have hL154 : loopM (B_l_heldWriteS_0 p_a p_k) (p_a.length - 0) 0 (p_k) = .ret (-1) := hI11.symm.trans (loopM.ret hlt18 hB155)
     refine br (tr (rr rfl (.cons rfl .nil) ?_))
     rw [show (l_heldWriteS p_a p_k) = (-1) by simp only [l_heldWriteS, hb77, hL154, cL]]
     exact ⟨rfl, (Ex.trans hf15 hE72)⟩
  ·refine CW.seq (cR (sM rfl (sM rfl (sd rfl (yL un34 rfl rfl (sd rfl (yl_lss rfl rfl rfl (dn ?_))))))))
   refine CW.cond_f rfl (lt_f hlt18) (CW.exit (tx (tx ?_)))
   have hL158 : loopM (B_l_heldWriteS_0 p_a p_k) (p_a.length - 0) 0 (p_k) = .done (x3) := hI11.symm.trans (loopM.stop hlt18)
   refine bx (tn (cR (sM rfl (sA rfl (dn (CW.ret ?_))))))
   refine rr rfl (.cons rfl .nil) ?_
   rw [show (l_heldWriteS p_a p_k) = (x3) by simp only [l_heldWriteS, hL158, cL]]
   exact ⟨rfl, hf15⟩
theorem c_l_FnExactDoAct {A1 : Option Addr} {c1 : Nat} {A2 : Option Addr} {c2 : Nat} {A3 : Option Addr} {c3 : Nat} {A4 : Option Addr} {c4 : Nat} {A5 : Option Addr} {c5 : Nat} {w : World} (p_0 : DTable) (p_1 : List DWrite) (p_2 : DRowAct) (h1 : RdS w (Iv 0 w.heap.size) (RF e_Str) 1 A1 p_0.Cols.length c1 p_0.Cols) (h2 : RdS w (Iv 0 w.heap.size) (RF e_Idx) 3 A2 p_0.Idxs.length c2 p_0.Idxs) (h3 : RdS w (Iv 0 w.heap.size) (RF e_Write) 3 A3 p_1.length c3 p_1) (h4 : RdS w (Iv 0 w.heap.size) (RF e_Str) 1 A4 p_2.Old.Vals.length c4 p_2.Old.Vals) (h5 : RdS w (Iv 0 w.heap.size) (RF e_Str) 1 A5 p_2.New.Vals.length c5 p_2.New.Vals) (pre0 : wf_Table p_0) (pre1 : (wfL wf_Write) p_1) (pre2 : wf_RowAct p_2) (hgb : GT 4 5 1 w) : Cal Tryz.prog 3 #[.agg #[.string (bs (p_0.Name)), .slice A1 p_0.Cols.length c1, .slice A2 p_0.Idxs.length c2], .slice A3 p_1.length c3, .agg #[.int .i64 (p_2.Kind), .slice A4 p_2.Old.Vals.length c4, .slice A5 p_2.New.Vals.length c5]] w fun v w' => v = .bool ((l_FnExactDoAct p_0 p_1 p_2)) ∧ Ex w w' := by
 refine Cal.of func3 rfl ntmps3 rfl (cR (sd rfl (yl_box rfl rfl rfl ?_)))
 intro b6 w7 hs8 hz9 hB10 hE11
 refine sd rfl (yl_box rfl rfl rfl ?_)
 intro b12 w13 hs14 hz15 hB16 hE17
 refine sA rfl (dn (cR (sA rfl (dn (CW.seq ?_)))))
 refine CW.region ?_
 have q18 := Box.ex hB10 hE17
 refine sd rfl (yl_loadN ty25 rfl rfl (q18.cells (n := 3) rfl) rfl (sM rfl ?_))
 have q20 := RdS.ex gS (RdS.ex gS h1 hE11) hE17
 have q22 := RdS.ex gI (RdS.ex gI h2 hE11) hE17
 refine sd rfl (yC en7 rfl (oc rfl (oc rfl oz)) (Cal.mono (c_l_szTable p_0 1048576 (RdS.up q20 gS) (RdS.up q22 gI)) ?_))
 rintro v24 w23 ⟨rfl, hE25⟩
 have hE25z := Ex.size hE25
 refine sA rfl (dn (CW.seq (cR (sM rfl (sd rfl (yl_lss rfl rfl rfl (SeqR.done ?_)))))))
 refine tn (bcD (q := (l_szTable p_0 1048576) < 0) (fun hb26 hb26p => ?_) (fun hb26 hb26p => ?_))
 ·refine CW.cond_t rfl hb26 (cR (sA rfl (dn (CW.ret (tr (rr rfl (.cons rfl .nil) ?_))))))
  rw [show (l_FnExactDoAct p_0 p_1 p_2) = (true) by simp only [l_FnExactDoAct, hb26, cL]]
  exact ⟨rfl, (Ex.trans (Ex.trans (Ex.trans (Ex.refl w) hE11) hE17) hE25)⟩
 ·refine CW.cond_f rfl hb26 (CW.skip (tn (cR (sM rfl (sM rfl ?_)))))
  have q33 := RdS.ex gW (RdS.ex gW (RdS.ex gW h3 hE11) hE17) hE25
  refine sd rfl (yC en8 rfl (oc rfl (oc rfl oz)) (Cal.mono (c_l_szWriteS p_1 (l_szTable p_0 1048576) (RdS.up q33 gW)) ?_))
  rintro v35 w34 ⟨rfl, hE36⟩
  have hE36z := Ex.size hE36
  have y2 := Ex.trans (Ex.trans (Ex.trans (Ex.trans (Ex.refl w) hE11) hE17) hE25) hE36
  refine sA rfl (dn (CW.seq (cR (sM rfl (sd rfl (yl_lss rfl rfl rfl (SeqR.done ?_)))))))
  refine tn (bcD (q := (l_szWriteS p_1 (l_szTable p_0 1048576)) < 0) (fun hb37 hb37p => ?_) (fun hb37 hb37p => ?_))
  ·refine CW.cond_t rfl hb37 (cR (sA rfl (dn (CW.ret (tr (rr rfl (.cons rfl .nil) ?_))))))
   rw [show (l_FnExactDoAct p_0 p_1 p_2) = (true) by simp only [l_FnExactDoAct, hb26, hb37, cL]]
   exact ⟨rfl, y2⟩
  ·refine CW.cond_f rfl hb37 (CW.skip (tn (cR ?_)))
   have q44 := Box.ex (Box.ex hB16 hE25) hE36
   refine sd rfl (yl_loadN ty30 rfl rfl (q44.cells (n := 3) rfl) rfl (sM rfl ?_))
   have q48 := RdS.ex gS (RdS.ex gS (RdS.ex gS (RdS.ex gS h4 hE11) hE17) hE25) hE36
   have q52 := RdS.ex gS (RdS.ex gS (RdS.ex gS (RdS.ex gS h5 hE11) hE17) hE25) hE36
   refine sd rfl (yC en9 rfl (oc rfl (oc rfl oz)) (Cal.mono (c_l_szRowAct p_2 (l_szWriteS p_1 (l_szTable p_0 1048576)) (RdS.up q48 gS) (RdS.up q52 gS)) ?_))
   rintro v54 w53 ⟨rfl, hE55⟩
   have hE55z := Ex.size hE55
   refine sA rfl (dn (CW.seq (cR (sM rfl (sd rfl (yl_lss rfl rfl rfl (SeqR.done ?_)))))))
   refine tn (bcD (q := (l_szRowAct p_2 (l_szWriteS p_1 (l_szTable p_0 1048576))) < 0) (fun hb56 hb56p => ?_) (fun hb56 hb56p => ?_))
   ·refine CW.cond_t rfl hb56 (cR (sA rfl (dn (CW.ret (tr (rr rfl (.cons rfl .nil) ?_))))))
    rw [show (l_FnExactDoAct p_0 p_1 p_2) = (true) by simp only [l_FnExactDoAct, hb26, hb37, hb56, cL]]
    exact ⟨rfl, (Ex.trans y2 hE55)⟩
   ·refine CW.cond_f rfl hb56 (CW.skip (tn (CW.seq ?_)))
    have q65 := Box.ex (Box.ex (Box.ex q18 hE25) hE36) hE55
    have q68 := RdS.ex gS (RdS.ex gS (RdS.ex gS q20 hE25) hE36) hE55
    have q71 := RdS.ex gI (RdS.ex gI (RdS.ex gI q22 hE25) hE36) hE55
    have q76 := RdS.ex gW (RdS.ex gW q33 hE36) hE55
    have q79 := Box.ex q44 hE55
    have q80 := RdS.ex gS q48 hE55
    have q81 := RdS.ex gS q52 hE55
    refine CW.drawsI 14 (vgetI [DetI (.agg #[.string (bs (p_0.Name)), .slice A1 p_0.Cols.length c1, .slice A2 p_0.Idxs.length c2]), fun lo hi v wq => ∃ A73 c73 lo73 hi73 A74 c74 lo74 hi74, v = .agg #[.string (bs (p_0.Name)), .slice A73 p_0.Cols.length c73, .slice A74 p_0.Idxs.length c74] ∧ OwnL wq lo73 hi73 9 1 (RF e_Str) A73 p_0.Cols.length c73 p_0.Cols ∧ OwnL wq lo74 hi74 111 3 (RF e_Idx) A74 p_0.Idxs.length c74 p_0.Idxs ∧ (lo ≤ lo73 ∧ lo73 ≤ hi73 ∧ hi73 ≤ hi) ∧ (lo ≤ lo74 ∧ lo74 ≤ hi74 ∧ hi74 ≤ hi) ∧ (hi73 ≤ lo74 ∨ hi74 ≤ lo73), DetI (.slice A3 p_1.length c3), fun lo hi v wq => ∃ A78 c78 lo78 hi78, v = .slice A78 p_1.length c78 ∧ OwnL wq lo78 hi78 80 3 (RF e_Write) A78 p_1.length c78 p_1 ∧ (lo ≤ lo78 ∧ lo78 ≤ hi78 ∧ hi78 ≤ hi), DetI (.agg #[.int .i64 (p_2.Kind), .slice A4 p_2.Old.Vals.length c4, .slice A5 p_2.New.Vals.length c5]), fun lo hi v wq => ∃ A83 c83 lo83 hi83 A84 c84 lo84 hi84, v = .agg #[.int .i64 (p_2.Kind), .slice A83 p_2.Old.Vals.length c83, .slice A84 p_2.New.Vals.length c84] ∧ OwnL wq lo83 hi83 9 1 (RF e_Str) A83 p_2.Old.Vals.length c83 p_2.Old.Vals ∧ OwnL wq lo84 hi84 9 1 (RF e_Str) A84 p_2.New.Vals.length c84 p_2.New.Vals ∧ (lo ≤ lo83 ∧ lo83 ≤ hi83 ∧ hi83 ≤ hi) ∧ (lo ≤ lo84 ∧ lo84 ≤ hi84 ∧ hi84 ≤ hi) ∧ (hi83 ≤ lo84 ∨ hi84 ≤ lo83), fun lo hi v wq => ∃ A86 c86 lo86 hi86, v = .tuple #[.slice A86 (((s_DoAct p_0 p_1 p_2).1).length) c86, .bool ((s_DoAct p_0 p_1 p_2).2.1), .bool ((s_DoAct p_0 p_1 p_2).2.2)] ∧ OwnL wq lo86 hi86 80 3 (RF e_Write) A86 (((s_DoAct p_0 p_1 p_2).1).length) c86 ((s_DoAct p_0 p_1 p_2).1) ∧ (okL ok_Write) ((s_DoAct p_0 p_1 p_2).1) ∧ (lo ≤ lo86 ∧ lo86 ≤ hi86 ∧ hi86 ≤ hi), fun lo hi v wq => ∃ A86 c86, v = .tuple #[.slice A86 (((s_DoAct p_0 p_1 p_2).1).length) c86, .bool ((s_DoAct p_0 p_1 p_2).2.1), .bool ((s_DoAct p_0 p_1 p_2).2.2)] ∧ RdS wq (Ge w53.heap.size) (RF e_Write) 3 A86 ((s_DoAct p_0 p_1 p_2).1).length c86 ((s_DoAct p_0 p_1 p_2).1), fun lo hi v wq => ∃ A86 c86, v = .slice A86 (((s_DoAct p_0 p_1 p_2).1).length) c86 ∧ RdS wq (Ge w53.heap.size) (RF e_Write) 3 A86 ((s_DoAct p_0 p_1 p_2).1).length c86 ((s_DoAct p_0 p_1 p_2).1), DetI (.bool ((s_DoAct p_0 p_1 p_2).2.1)), DetI (.bool ((s_DoAct p_0 p_1 p_2).2.2)), fun lo hi v wq => ∃ A86 c86, v = .slice A86 (((s_DoAct p_0 p_1 p_2).1).length) c86 ∧ RdS wq (Ge w53.heap.size) (RF e_Write) 3 A86 ((s_DoAct p_0 p_1 p_2).1).length c86 ((s_DoAct p_0 p_1 p_2).1), DetI (.bool ((s_DoAct p_0 p_1 p_2).2.1)), DetI (.bool ((s_DoAct p_0 p_1 p_2).2.2))]) Tryz.follows rfl rfl rfl rfl rfl rfl (vgetI_stable ⟨StableI.det _, (fun _ _ _ _ _ ⟨A73, c73, lo73, hi73, A74, c74, lo74, hi74, hv, h73, h74, hr0, hr1, hr2⟩ e => ⟨A73, c73, lo73, hi73, A74, c74, lo74, hi74, hv, OwnL.ex gS h73 e, OwnL.ex gI h74 e, hr0, hr1, hr2⟩), StableI.det _, (fun _ _ _ _ _ ⟨A78, c78, lo78, hi78, hv, h78, hr0⟩ e => ⟨A78, c78, lo78, hi78, hv, OwnL.ex gW h78 e, hr0⟩), StableI.det _, (fun _ _ _ _ _ ⟨A83, c83, lo83, hi83, A84, c84, lo84, hi84, hv, h83, h84, hr0, hr1, hr2⟩ e => ⟨A83, c83, lo83, hi83, A84, c84, lo84, hi84, hv, OwnL.ex gS h83 e, OwnL.ex gS h84 e, hr0, hr1, hr2⟩), (fun _ _ _ _ _ ⟨A86, c86, lo86, hi86, hv, h86, ho87, hr0⟩ e => ⟨A86, c86, lo86, hi86, hv, OwnL.ex gW h86 e, ho87, hr0⟩), (fun _ _ _ _ _ ⟨A86, c86, hv, h88⟩ e => ⟨A86, c86, hv, RdS.ex gW h88 e⟩), (fun _ _ _ _ _ ⟨A86, c86, hv, h89⟩ e => ⟨A86, c86, hv, RdS.ex gW h89 e⟩), StableI.det _, StableI.det _, (fun _ _ _ _ _ ⟨A86, c86, hv, h90⟩ e => ⟨A86, c86, hv, RdS.ex gW h90 e⟩), StableI.det _, StableI.det _, trivial⟩) ⟨?_, ?_, ?_, ?_, ?_, ?_, ?_, ?_, ?_, ?_, ?_, ?_, ?_, ?_, trivial⟩ ?_
    ·exact oI rfl fun h => yl_loadN ty25 rfl (h.old 3 _ rfl rfl) ((Box.ex q65 h.ex).cells (n := 3) rfl) rfl kI
    ·intro L97 w98 hi99
     have hE100 := hi99.ex
     refine OpR.op' rfl (yC en11 rfl (oc (hi99.dt 0 39 rfl rfl rfl) oz) (Cal.mono (c_l_toTable p_0 (RdS.up (RdS.ex gS q68 hE100) gS) (RdS.up (RdS.ex gI q71 hE100) gI) ((szok_Table pre0 (by decide) (dec_f hb26)).1)) ?_))
     rintro v107 w104 ⟨A105, c105, lo105, hi105, A106, c106, lo106, hi106, rfl, h105, h106, hrn109, hrn110, hrn111, hE108⟩
     exact ⟨⟨A105, c105, lo105, hi105, A106, c106, lo106, hi106, rfl, h105, h106, hrn109, hrn110, hrn111⟩, hE108⟩
    ·exact oI rfl fun h => yM rfl (h.old 1 _ rfl rfl) kI
    ·intro L117 w118 hi119
     have hE120 := hi119.ex
     refine OpR.op' rfl (yC en12 rfl (oc (hi119.dt 2 41 rfl rfl rfl) oz) (Cal.mono (c_l_toWriteS p_1 (RdS.up (RdS.ex gW q76 hE120) gW) ((szok_WriteS pre1 (szok_Table pre0 (by decide) (dec_f hb26)).2 (dec_f hb37)).1)) ?_))
     rintro v125 w123 ⟨A124, c124, lo124, hi124, rfl, h124, hrn127, hE126⟩
     exact ⟨⟨A124, c124, lo124, hi124, rfl, h124, hrn127⟩, hE126⟩
    ·exact oI rfl fun h => yl_loadN ty30 rfl (h.old 5 _ rfl rfl) ((Box.ex q79 h.ex).cells (n := 3) rfl) rfl kI
    ·intro L134 w135 hi136
     have hE137 := hi136.ex
     refine OpR.op' rfl (yC en13 rfl (oc (hi136.dt 4 43 rfl rfl rfl) oz) (Cal.mono (c_l_toRowAct p_2 (RdS.up (RdS.ex gS q80 hE137) gS) (RdS.up (RdS.ex gS q81 hE137) gS) ((szok_RowAct pre2 (szok_WriteS pre1 (szok_Table pre0 (by decide) (dec_f hb26)).2 (dec_f hb37)).2 (dec_f hb56)).1)) ?_))
     rintro v144 w141 ⟨A142, c142, lo142, hi142, A143, c143, lo143, hi143, rfl, h142, h143, hrn146, hrn147, hrn148, hE145⟩
     exact ⟨⟨A142, c142, lo142, hi142, A143, c143, lo143, hi143, rfl, h142, h143, hrn146, hrn147, hrn148⟩, hE145⟩
    ·intro L149 w150 hi151
     obtain ⟨lo154, hh155, _, hx153, hr156, hr157, hr158, A73_159, c73_160, lo73_161, hi73_162, A74_163, c74_164, lo74_165, hi74_166, rfl, h167, h168, hrn169, hrn170, hrn171⟩ := hi151.dep 1 40 rfl rfl
     obtain ⟨lo173, hh174, _, hx172, hr175, hr176, hr177, A78_178, c78_179, lo78_180, hi78_181, rfl, h182, hrn183⟩ := hi151.dep 3 42 rfl rfl
     obtain ⟨lo185, hh186, _, hx184, hr187, hr188, hr189, A83_190, c83_191, lo83_192, hi83_193, A84_194, c84_195, lo84_196, hi84_197, rfl, h198, h199, hrn200, hrn201, hrn202⟩ := hi151.dep 5 44 rfl rfl
     refine OpR.op' rfl (yC en10 rfl (oc hx153 (oc hx172 (oc hx184 oz))) (Cal.mono (c_s_DoAct p_0 p_1 p_2 (RdS.up (OwnL.rd gS h167) gS) (RdS.up (OwnL.rd gI h168) gI) (RdS.up (OwnL.rd gW h182) gW) (RdS.up (OwnL.rd gS h198) gS) (RdS.up (OwnL.rd gS h199) gS) ((szok_Table pre0 (by decide) (dec_f hb26)).1) ((szok_WriteS pre1 (szok_Table pre0 (by decide) (dec_f hb26)).2 (dec_f hb37)).1) ((szok_RowAct pre2 (szok_WriteS pre1 (szok_Table pre0 (by decide) (dec_f hb26)).2 (dec_f hb37)).2 (dec_f hb56)).1)) ?_))
     rintro v211 w208 ⟨A209, c209, lo209, hi209, rfl, h209, ho210, hrn213, hE212⟩
     exact ⟨⟨A209, c209, lo209, hi209, rfl, h209, ho210, hrn213⟩, hE212⟩
    ·intro L214 w215 hi216
     have hE217 := hi216.ex
     have hE217z := Ex.size hE217
     obtain ⟨lo219, hh220, _, hx218, hr221, hr222, hr223, A86_224, c86_225, lo86_226, hi86_227, rfl, h228, h229, hrn230⟩ := hi216.dep 6 45 rfl rfl
     exact os rfl ((yM rfl hx218 ⟨fun _ _ => ⟨A86_224, c86_225, rfl, (RdS.ivG gW (OwnL.rd gW h228) oM)⟩, rfl⟩))
    ·intro L231 w232 hi233
     obtain ⟨lo236, hh237, _, hx235, hr238, hr239, hr240, A86_241, c86_242, rfl, h243⟩ := hi233.dep 7 38 rfl rfl
     exact os rfl ((yl_extract rfl hx235 rfl ⟨fun _ _ => ⟨A86_241, c86_242, rfl, h243⟩, rfl⟩))
    ·intro L244 w245 hi246
     obtain ⟨lo249, hh250, _, hx248, hr251, hr252, hr253, A86_254, c86_255, rfl, h256⟩ := hi246.dep 7 38 rfl rfl
     exact os rfl ((yl_extract rfl hx248 rfl kI))
    ·intro L257 w258 hi259
     obtain ⟨lo262, hh263, _, hx261, hr264, hr265, hr266, A86_267, c86_268, rfl, h269⟩ := hi259.dep 7 38 rfl rfl
     exact os rfl ((yl_extract rfl hx261 rfl kI))
    ·intro L270 w271 hi272
     obtain ⟨lo275, hh276, _, hx274, hr277, hr278, hr279, A86_280, c86_281, rfl, h282⟩ := hi272.dep 8 46 rfl rfl
     exact os rfl ((yA rfl hx274 ⟨fun _ _ => ⟨A86_280, c86_281, rfl, h282⟩, rfl⟩))
    ·exact oI rfl fun h => yA rfl (h.dt 9 47 rfl rfl rfl) kI
    ·exact oI rfl fun h => yA rfl (h.dt 10 48 rfl rfl rfl) kI
    ·intro fl296 fh297 L293 w294 hp295
     have hE298 := hp295.ex
     have hE298z := Ex.size hE298
     have hr303 := hp295.rng 1 rfl
     obtain ⟨_, hx302, A73_304, c73_305, lo73_306, hi73_307, A74_308, c74_309, lo74_310, hi74_311, rfl, h312, h313, hrn314, hrn315, hrn316⟩ := hp295.new 1 40 rfl rfl
     have hr318 := hp295.rng 3 rfl
     have hsp319 := hp295.sep 1 3 rfl rfl rfl
     obtain ⟨_, hx317, A78_320, c78_321, lo78_322, hi78_323, rfl, h324, hrn325⟩ := hp295.new 3 42 rfl rfl
     have hr327 := hp295.rng 5 rfl
     have hsp328 := hp295.sep 1 5 rfl rfl rfl
     have hsp329 := hp295.sep 3 5 rfl rfl rfl
     obtain ⟨_, hx326, A83_330, c83_331, lo83_332, hi83_333, A84_334, c84_335, lo84_336, hi84_337, rfl, h338, h339, hrn340, hrn341, hrn342⟩ := hp295.new 5 44 rfl rfl
     have hr344 := hp295.rng 6 rfl
     have hsp345 := hp295.sep 1 6 rfl rfl rfl
     have hsp346 := hp295.sep 3 6 rfl rfl rfl
     have hsp347 := hp295.sep 5 6 rfl rfl rfl
     obtain ⟨_, hx343, A86_348, c86_349, lo86_350, hi86_351, rfl, h352, h353, hrn354⟩ := hp295.new 6 45 rfl rfl
     obtain ⟨_, hx355, A86_356, c86_357, rfl, h358⟩ := hp295.new 11 8 rfl rfl
     have hq359 := RdS.wideG gW h358 (Nat.le_refl _)
     refine dn (CW.sub (sC 1 (hp295.old 1 _ rfl rfl) (sC 3 (hp295.old 3 _ rfl rfl) (sC 5 (hp295.old 5 _ rfl rfl) (sC 8 hx355 (sC 9 (hp295.nt 12 9 rfl rfl rfl) (sC 10 (hp295.nt 13 10 rfl rfl rfl) (Sub.nil _))))))) (cR ?_))
     have q362 := Box.ex q65 hE298
     refine sd rfl (yl_loadN ty25 rfl rfl (q362.cells (n := 3) rfl) rfl ?_)
     have q363 := RdS.ex gS q68 hE298
     have q364 := RdS.ex gI q71 hE298
     refine sd rfl (yC en11 rfl (oc rfl oz) (Cal.mono (c_l_toTable p_0 (RdS.up q363 gS) (RdS.up q364 gI) ((szok_Table pre0 (by decide) (dec_f hb26)).1)) ?_))
     rintro v368 w365 ⟨A366, c366, lo366, hi366, A367, c367, lo367, hi367, rfl, h366, h367, hrn370, hrn371, hrn372, hE369⟩
     have hE369z := Ex.size hE369
     refine sd rfl (yB ty39 (cs := [.string (bs (([] : Str))), .slice none 0 0, .slice none 0 0]) rfl rfl ?_)
     intro b373 w374 hs375 hz376 hB377 hE378
     refine SeqR.u rfl rfl (yl_storeA (vs := [.string (bs (p_0.Name)), .slice A366 p_0.Cols.length c366, .slice A367 p_0.Idxs.length c367]) ty39 rfl rfl rfl rfl rfl rfl hB377 rfl ?_)
     intro w379 hB380 hO381
     have hO381z := hO381.size
     refine dn (cR (sM rfl ?_))
     have q385 := RdS.only gW (RdS.ex gW (RdS.ex gW (RdS.ex gW q76 hE298) hE369) hE378) hO381 iV
     refine sd rfl (yC en12 rfl (oc rfl oz) (Cal.mono (c_l_toWriteS p_1 (RdS.up q385 gW) ((szok_WriteS pre1 (szok_Table pre0 (by decide) (dec_f hb26)).2 (dec_f hb37)).1)) ?_))
     rintro v388 w386 ⟨A387, c387, lo387, hi387, rfl, h387, hrn390, hE389⟩
     have hE389z := Ex.size hE389
     refine sA rfl (dn (cR ?_))
     have q395 := Box.ex (Box.only (Box.ex (Box.ex (Box.ex q79 hE298) hE369) hE378) hO381 oM) hE389
     refine sd rfl (yl_loadN ty30 rfl rfl (q395.cells (n := 3) rfl) rfl ?_)
     have q400 := RdS.ex gS (RdS.only gS (RdS.ex gS (RdS.ex gS (RdS.ex gS q80 hE298) hE369) hE378) hO381 iV) hE389
     have q405 := RdS.ex gS (RdS.only gS (RdS.ex gS (RdS.ex gS (RdS.ex gS q81 hE298) hE369) hE378) hO381 iV) hE389
     refine sd rfl (yC en13 rfl (oc rfl oz) (Cal.mono (c_l_toRowAct p_2 (RdS.up q400 gS) (RdS.up q405 gS) ((szok_RowAct pre2 (szok_WriteS pre1 (szok_Table pre0 (by decide) (dec_f hb26)).2 (dec_f hb37)).2 (dec_f hb56)).1)) ?_))
     rintro v409 w406 ⟨A407, c407, lo407, hi407, A408, c408, lo408, hi408, rfl, h407, h408, hrn411, hrn412, hrn413, hE410⟩
     have hE410z := Ex.size hE410
     refine sd rfl (yB ty44 (cs := [.int .i64 (0), .slice none 0 0, .slice none 0 0]) rfl rfl ?_)
     intro b414 w415 hs416 hz417 hB418 hE419
     refine SeqR.u rfl rfl (yl_storeA (vs := [.int .i64 (p_2.Kind), .slice A407 p_2.Old.Vals.length c407, .slice A408 p_2.New.Vals.length c408]) ty44 rfl rfl rfl rfl rfl rfl hB418 rfl ?_)
     intro w420 hB421 hO422
     have hO422z := hO422.size
     refine dn (cR ?_)
     have q426 := Box.only (Box.ex (Box.ex (Box.ex hB380 hE389) hE410) hE419) hO422 oM
     refine sd rfl (yl_loadN ty39 rfl rfl (q426.cells (n := 3) rfl) rfl (sM rfl (sd rfl (yl_loadN ty44 rfl rfl (hB421.cells (n := 3) rfl) rfl ?_))))
     have q433 := OwnL.only gS (OwnL.ex gS (OwnL.ex gS (OwnL.ex gS (OwnL.only gS (OwnL.ex gS h366 hE378) hO381 oM) hE389) hE410) hE419) hO422 oM
     have q440 := OwnL.only gI (OwnL.ex gI (OwnL.ex gI (OwnL.ex gI (OwnL.only gI (OwnL.ex gI h367 hE378) hO381 oM) hE389) hE410) hE419) hO422 oM
     have q444 := OwnL.only gW (OwnL.ex gW (OwnL.ex gW h387 hE410) hE419) hO422 oM
     have q447 := OwnL.only gS (OwnL.ex gS h407 hE419) hO422 oM
     have q450 := OwnL.only gS (OwnL.ex gS h408 hE419) hO422 oM
     have q463 := Below.only (Ex.trans (Ex.trans (Ex.trans (Below.only (Ex.trans (Ex.trans (Ex.trans (Ex.trans y2 hE55) hE298) hE369) hE378) hO381 oM) hE389) hE410) hE419) hO422 oM
     refine sd rfl (yC en14 rfl (oc rfl (oc rfl (oc rfl oz))) (Cal.mono (c_i_DoAct p_0 p_1 p_2 (RdS.up (OwnL.rd gS q433) gS) (RdS.up (OwnL.rd gI q440) gI) (RdS.up (OwnL.rd gW q444) gW) (RdS.up (OwnL.rd gS q447) gS) (RdS.up (OwnL.rd gS q450) gS) ((szok_Table pre0 (by decide) (dec_f hb26)).1) ((szok_WriteS pre1 (szok_Table pre0 (by decide) (dec_f hb26)).2 (dec_f hb37)).1) ((szok_RowAct pre2 (szok_WriteS pre1 (szok_Table pre0 (by decide) (dec_f hb26)).2 (dec_f hb37)).2 (dec_f hb56)).1) (hgb.ex q463)) ?_))
     rintro v467 w464 ⟨A465, c465, lo465, hi465, rfl, h465, ho466, hrn469, hE468⟩
     have hE468z := Ex.size hE468
     refine sM rfl (sd rfl (yl_extract rfl rfl rfl (sd rfl (yl_extract rfl rfl rfl (sd rfl (yl_extract rfl rfl rfl (sA rfl (sA rfl (sA rfl (dn ?_))))))))))
     refine CW.seq (cR (sM rfl (sM rfl ?_)))
     have q478 := RdS.ex gW (RdS.only gW (RdS.ex gW (RdS.ex gW (RdS.ex gW (RdS.only gW (RdS.ex gW (RdS.ex gW hq359 hE369) hE378) hO381 iV) hE389) hE410) hE419) hO422 iV) hE468
     refine sd rfl (yC en15 rfl (oc rfl (oc rfl oz)) (Cal.mono (c_l_eqWriteS ((i_DoAct p_0 p_1 p_2).1) ((s_DoAct p_0 p_1 p_2).1) (RdS.up (OwnL.rd gW h465) gW) (RdS.up q478 gW)) ?_))
     rintro v480 w479 ⟨rfl, hE481⟩
     have hE481z := Ex.size hE481
     refine sd rfl (yl_not rfl rfl (sM rfl (bcase (l_eqWriteS ((i_DoAct p_0 p_1 p_2).1) ((s_DoAct p_0 p_1 p_2).1)) (fun hb482 => ?_) (fun hb482 => ?_))))
     ·refine sy rfl rfl (not_t hb482) (yM rfl rfl (sy rfl rfl (not_t hb482) (yM rfl rfl (sy rfl rfl (not_t hb482) (yl_bneq un4 rfl rfl rfl (sd rfl (yl_pick_f rfl rfl (not_t hb482) rfl (sM rfl (bcase (((i_DoAct p_0 p_1 p_2).2.1) == ((s_DoAct p_0 p_1 p_2).2.1)) (fun hb483 => ?_) (fun hb483 => ?_))))))))))
      ·refine sy rfl rfl (not_t hb483) (yM rfl rfl (sy rfl rfl (not_t hb483) (yM rfl rfl (sy rfl rfl (not_t hb483) (yl_bneq un4 rfl rfl rfl (sd rfl (yl_pick_f rfl rfl (not_t hb483) rfl (dn (bcase (((i_DoAct p_0 p_1 p_2).2.2) == ((s_DoAct p_0 p_1 p_2).2.2)) (fun hb484 => ?_) (fun hb484 => ?_))))))))))
       ·refine CW.cond_f rfl (not_t hb484) (CW.skip (tn (CW.seq (CW.seq ?_))))
        have q486 := Box.ex (Box.ex q426 hE468) hE481
        have q495 := Box.ex (Box.ex (Box.only (Box.ex (Box.ex (Box.ex (Box.only (Box.ex (Box.ex q362 hE369) hE378) hO381 oM) hE389) hE410) hE419) hO422 oM) hE468) hE481
        have q504 := RdS.ex gS (RdS.ex gS (RdS.only gS (RdS.ex gS (RdS.ex gS (RdS.ex gS (RdS.only gS (RdS.ex gS (RdS.ex gS q363 hE369) hE378) hO381 iV) hE389) hE410) hE419) hO422 iV) hE468) hE481
        have q513 := RdS.ex gI (RdS.ex gI (RdS.only gI (RdS.ex gI (RdS.ex gI (RdS.ex gI (RdS.only gI (RdS.ex gI (RdS.ex gI q364 hE369) hE378) hO381 iV) hE389) hE410) hE419) hO422 iV) hE468) hE481
        have q519 := OwnL.ex gS (OwnL.ex gS q433 hE468) hE481
        have q522 := OwnL.ex gI (OwnL.ex gI q440 hE468) hE481
        refine CW.drawsI 5 (vgetI [DetI (.agg #[.string (bs (p_0.Name)), .slice A366 p_0.Cols.length c366, .slice A367 p_0.Idxs.length c367]), DetI (.agg #[.string (bs (p_0.Name)), .slice A1 p_0.Cols.length c1, .slice A2 p_0.Idxs.length c2]), fun lo hi v wq => ∃ A515 c515 lo515 hi515 A516 c516 lo516 hi516, v = .agg #[.string (bs (p_0.Name)), .slice A515 p_0.Cols.length c515, .slice A516 p_0.Idxs.length c516] ∧ OwnL wq lo515 hi515 9 1 (RF e_Str) A515 p_0.Cols.length c515 p_0.Cols ∧ OwnL wq lo516 hi516 111 3 (RF e_Idx) A516 p_0.Idxs.length c516 p_0.Idxs ∧ (lo ≤ lo515 ∧ lo515 ≤ hi515 ∧ hi515 ≤ hi) ∧ (lo ≤ lo516 ∧ lo516 ≤ hi516 ∧ hi516 ≤ hi) ∧ (hi515 ≤ lo516 ∨ hi516 ≤ lo515), DetI (.bool ((l_eqTable p_0 p_0))), DetI (.bool (!(l_eqTable p_0 p_0)))]) Tryz.follows rfl rfl rfl rfl rfl rfl (vgetI_stable ⟨StableI.det _, StableI.det _, (fun _ _ _ _ _ ⟨A515, c515, lo515, hi515, A516, c516, lo516, hi516, hv, h515, h516, hr0, hr1, hr2⟩ e => ⟨A515, c515, lo515, hi515, A516, c516, lo516, hi516, hv, OwnL.ex gS h515 e, OwnL.ex gI h516 e, hr0, hr1, hr2⟩), StableI.det _, StableI.det _, trivial⟩) ⟨?_, ?_, ?_, ?_, ?_, trivial⟩ ?_
        ·exact oI rfl fun h => yl_loadN ty39 rfl (h.old 11 _ rfl rfl) ((Box.ex q486 h.ex).cells (n := 3) rfl) rfl kI
        ·exact oI rfl fun h => yl_loadN ty25 rfl (h.old 3 _ rfl rfl) ((Box.ex q495 h.ex).cells (n := 3) rfl) rfl kI
        ·intro L536 w537 hi538
         have hE539 := hi538.ex
         refine OpR.op' rfl (yC en11 rfl (oc (hi538.dt 1 78 rfl rfl rfl) oz) (Cal.mono (c_l_toTable p_0 (RdS.up (RdS.ex gS q504 hE539) gS) (RdS.up (RdS.ex gI q513 hE539) gI) ((szok_Table pre0 (by decide) (dec_f hb26)).1)) ?_))
         rintro v546 w543 ⟨A544, c544, lo544, hi544, A545, c545, lo545, hi545, rfl, h544, h545, hrn548, hrn549, hrn550, hE547⟩
         exact ⟨⟨A544, c544, lo544, hi544, A545, c545, lo545, hi545, rfl, h544, h545, hrn548, hrn549, hrn550⟩, hE547⟩
        ·intro L551 w552 hi553
         have hE554 := hi553.ex
         obtain ⟨lo557, hh558, _, hx556, hr559, hr560, hr561, A515_562, c515_563, lo515_564, hi515_565, A516_566, c516_567, lo516_568, hi516_569, rfl, h570, h571, hrn572, hrn573, hrn574⟩ := hi553.dep 2 79 rfl rfl
         exact OpR.op' rfl (yC en16 rfl (oc (hi553.dt 0 77 rfl rfl rfl) (oc hx556 oz)) (Cal.mono (c_l_eqTable p_0 p_0 (RdS.up (OwnL.rd gS (OwnL.ex gS q519 hE554)) gS) (RdS.up (OwnL.rd gI (OwnL.ex gI q522 hE554)) gI) (RdS.up (OwnL.rd gS h570) gS) (RdS.up (OwnL.rd gI h571) gI)) fun _ _ h => h))
        ·exact oI rfl fun h => yl_not rfl (h.dt 3 80 rfl rfl rfl) kI
        ·intro fl592 fh593 L589 w590 hp591
         have hE594 := hp591.ex
         have hE594z := Ex.size hE594
         have hr608 := hp591.rng 2 rfl
         obtain ⟨_, hx607, A515_609, c515_610, lo515_611, hi515_612, A516_613, c516_614, lo516_615, hi516_616, rfl, h617, h618, hrn619, hrn620, hrn621⟩ := hp591.new 2 79 rfl rfl
         refine dn (CW.sub (sC 1 (hp591.old 1 _ rfl rfl) (sC 3 (hp591.old 3 _ rfl rfl) (sC 5 (hp591.old 5 _ rfl rfl) (sC 8 (hp591.old 8 _ rfl rfl) (sC 9 (hp591.old 9 _ rfl rfl) (sC 10 (hp591.old 10 _ rfl rfl) (sC 11 (hp591.old 11 _ rfl rfl) (sC 12 (hp591.old 12 _ rfl rfl) (sC 13 (hp591.old 13 _ rfl rfl) (sC 14 (hp591.old 14 _ rfl rfl) (sC 15 (hp591.old 15 _ rfl rfl) (sC 16 (hp591.old 16 _ rfl rfl) (sC 81 (hp591.nt 4 81 rfl rfl rfl) (Sub.nil _)))))))))))))) (bcase (l_eqTable p_0 p_0) (fun hb623 => ?_) (fun hb623 => ?_)))
         ·refine CW.cond_f rfl (not_t hb623) (CW.skip (tn (CW.seq (cR (sM rfl (sM rfl ?_))))))
          have q630 := RdS.ex gW (RdS.ex gW (RdS.ex gW (RdS.only gW (RdS.ex gW (RdS.ex gW (RdS.ex gW q385 hE389) hE410) hE419) hO422 iV) hE468) hE481) hE594
          refine sd rfl (yC en12 rfl (oc rfl oz) (Cal.mono (c_l_toWriteS p_1 (RdS.up q630 gW) ((szok_WriteS pre1 (szok_Table pre0 (by decide) (dec_f hb26)).2 (dec_f hb37)).1)) ?_))
          rintro v633 w631 ⟨A632, c632, lo632, hi632, rfl, h632, hrn635, hE634⟩
          have hE634z := Ex.size hE634
          have q640 := OwnL.ex gW (OwnL.ex gW (OwnL.ex gW (OwnL.ex gW q444 hE468) hE481) hE594) hE634
          refine sd rfl (yC en15 rfl (oc rfl (oc rfl oz)) (Cal.mono (c_l_eqWriteS p_1 p_1 (RdS.up (OwnL.rd gW q640) gW) (RdS.up (OwnL.rd gW h632) gW)) ?_))
          rintro v643 w642 ⟨rfl, hE644⟩
          have hE644z := Ex.size hE644
          have y0 := Ex.trans (Ex.trans (Ex.trans (Ex.trans (Ex.trans q463 hE468) hE481) hE594) hE634) hE644
          refine sd rfl (yl_not rfl rfl (dn (bcase (l_eqWriteS p_1 p_1) (fun hb645 => ?_) (fun hb645 => ?_))))
          ·refine CW.cond_f rfl (not_t hb645) (CW.skip (tn (CW.seq (CW.seq ?_))))
           have q650 := Box.ex (Box.ex (Box.ex (Box.ex (Box.ex hB421 hE468) hE481) hE594) hE634) hE644
           have q658 := Box.ex (Box.ex (Box.ex (Box.ex (Box.ex (Box.only (Box.ex (Box.ex q395 hE410) hE419) hO422 oM) hE468) hE481) hE594) hE634) hE644
           have q666 := RdS.ex gS (RdS.ex gS (RdS.ex gS (RdS.ex gS (RdS.ex gS (RdS.only gS (RdS.ex gS (RdS.ex gS q400 hE410) hE419) hO422 iV) hE468) hE481) hE594) hE634) hE644
           have q674 := RdS.ex gS (RdS.ex gS (RdS.ex gS (RdS.ex gS (RdS.ex gS (RdS.only gS (RdS.ex gS (RdS.ex gS q405 hE410) hE419) hO422 iV) hE468) hE481) hE594) hE634) hE644
           have q683 := OwnL.ex gS (OwnL.ex gS (OwnL.ex gS (OwnL.ex gS (OwnL.ex gS q447 hE468) hE481) hE594) hE634) hE644
           have q689 := OwnL.ex gS (OwnL.ex gS (OwnL.ex gS (OwnL.ex gS (OwnL.ex gS q450 hE468) hE481) hE594) hE634) hE644
           refine CW.drawsI 5 (vgetI [DetI (.agg #[.int .i64 (p_2.Kind), .slice A407 p_2.Old.Vals.length c407, .slice A408 p_2.New.Vals.length c408]), DetI (.agg #[.int .i64 (p_2.Kind), .slice A4 p_2.Old.Vals.length c4, .slice A5 p_2.New.Vals.length c5]), fun lo hi v wq => ∃ A676 c676 lo676 hi676 A677 c677 lo677 hi677, v = .agg #[.int .i64 (p_2.Kind), .slice A676 p_2.Old.Vals.length c676, .slice A677 p_2.New.Vals.length c677] ∧ OwnL wq lo676 hi676 9 1 (RF e_Str) A676 p_2.Old.Vals.length c676 p_2.Old.Vals ∧ OwnL wq lo677 hi677 9 1 (RF e_Str) A677 p_2.New.Vals.length c677 p_2.New.Vals ∧ (lo ≤ lo676 ∧ lo676 ≤ hi676 ∧ hi676 ≤ hi) ∧ (lo ≤ lo677 ∧ lo677 ≤ hi677 ∧ hi677 ≤ hi) ∧ (hi676 ≤ lo677 ∨ hi677 ≤ lo676), DetI (.bool ((l_eqRowAct p_2 p_2))), DetI (.bool (!(l_eqRowAct p_2 p_2)))]) Tryz.follows rfl rfl rfl rfl rfl rfl (vgetI_stable ⟨StableI.det _, StableI.det _, (fun _ _ _ _ _ ⟨A676, c676, lo676, hi676, A677, c677, lo677, hi677, hv, h676, h677, hr0, hr1, hr2⟩ e => ⟨A676, c676, lo676, hi676, A677, c677, lo677, hi677, hv, OwnL.ex gS h676 e, OwnL.ex gS h677 e, hr0, hr1, hr2⟩), StableI.det _, StableI.det _, trivial⟩) ⟨?_, ?_, ?_, ?_, ?_, trivial⟩ ?_
           ·exact oI rfl fun h => yl_loadN ty44 rfl (h.old 13 _ rfl rfl) ((Box.ex q650 h.ex).cells (n := 3) rfl) rfl kI
           ·exact oI rfl fun h => yl_loadN ty30 rfl (h.old 5 _ rfl rfl) ((Box.ex q658 h.ex).cells (n := 3) rfl) rfl kI
           ·intro L703 w704 hi705
            have hE706 := hi705.ex
            refine OpR.op' rfl (yC en13 rfl (oc (hi705.dt 1 88 rfl rfl rfl) oz) (Cal.mono (c_l_toRowAct p_2 (RdS.up (RdS.ex gS q666 hE706) gS) (RdS.up (RdS.ex gS q674 hE706) gS) ((szok_RowAct pre2 (szok_WriteS pre1 (szok_Table pre0 (by decide) (dec_f hb26)).2 (dec_f hb37)).2 (dec_f hb56)).1)) ?_))
            rintro v713 w710 ⟨A711, c711, lo711, hi711, A712, c712, lo712, hi712, rfl, h711, h712, hrn715, hrn716, hrn717, hE714⟩
            exact ⟨⟨A711, c711, lo711, hi711, A712, c712, lo712, hi712, rfl, h711, h712, hrn715, hrn716, hrn717⟩, hE714⟩
           ·intro L718 w719 hi720
            have hE721 := hi720.ex
            obtain ⟨lo724, hh725, _, hx723, hr726, hr727, hr728, A676_729, c676_730, lo676_731, hi676_732, A677_733, c677_734, lo677_735, hi677_736, rfl, h737, h738, hrn739, hrn740, hrn741⟩ := hi720.dep 2 89 rfl rfl
            exact OpR.op' rfl (yC en17 rfl (oc (hi720.dt 0 87 rfl rfl rfl) (oc hx723 oz)) (Cal.mono (c_l_eqRowAct p_2 p_2 (RdS.up (OwnL.rd gS (OwnL.ex gS q683 hE721)) gS) (RdS.up (OwnL.rd gS (OwnL.ex gS q689 hE721)) gS) (RdS.up (OwnL.rd gS h737) gS) (RdS.up (OwnL.rd gS h738) gS)) fun _ _ h => h))
           ·exact oI rfl fun h => yl_not rfl (h.dt 3 90 rfl rfl rfl) kI
           ·intro fl759 fh760 L756 w757 hp758
            have hE761 := hp758.ex
            have hE761z := Ex.size hE761
            have hr775 := hp758.rng 2 rfl
            obtain ⟨_, hx774, A676_776, c676_777, lo676_778, hi676_779, A677_780, c677_781, lo677_782, hi677_783, rfl, h784, h785, hrn786, hrn787, hrn788⟩ := hp758.new 2 89 rfl rfl
            refine dn (CW.sub (sC 1 (hp758.old 1 _ rfl rfl) (sC 3 (hp758.old 3 _ rfl rfl) (sC 5 (hp758.old 5 _ rfl rfl) (sC 8 (hp758.old 8 _ rfl rfl) (sC 9 (hp758.old 9 _ rfl rfl) (sC 10 (hp758.old 10 _ rfl rfl) (sC 11 (hp758.old 11 _ rfl rfl) (sC 12 (hp758.old 12 _ rfl rfl) (sC 13 (hp758.old 13 _ rfl rfl) (sC 14 (hp758.old 14 _ rfl rfl) (sC 15 (hp758.old 15 _ rfl rfl) (sC 16 (hp758.old 16 _ rfl rfl) (sC 91 (hp758.nt 4 91 rfl rfl rfl) (Sub.nil _)))))))))))))) (bcase (l_eqRowAct p_2 p_2) (fun hb790 => ?_) (fun hb790 => ?_)))
            ·refine CW.cond_f rfl (not_t hb790) (CW.skip (tn (cR (sA rfl (dn (CW.seq ?_))))))
             refine CW.region (sd rfl (yl_loadN ty39 rfl rfl ((Box.ex (Box.ex (Box.ex (Box.ex q486 hE594) hE634) hE644) hE761).cells (n := 3) rfl) rfl (sM rfl (sd rfl (yC en18 rfl (oc rfl (oc rfl oz)) (Cal.mono (c_l_markTable p_0 1 (OwnL.ex gS (OwnL.ex gS (OwnL.ex gS (OwnL.ex gS q519 hE594) hE634) hE644) hE761) (OwnL.ex gI (OwnL.ex gI (OwnL.ex gI (OwnL.ex gI q522 hE594) hE634) hE644) hE761) oM oM oM Bo) ?_))))))
             rintro v804 w803 ⟨rfl, h806, h807, hm805⟩
             have hm805z := Mut.size hm805
             have hrf808 := rf_markTable p_0 1 Bo
             refine sA rfl (dn (cR (sM rfl (sM rfl (sd rfl (yC en19 rfl (oc rfl (oc rfl oz)) (Cal.mono (c_l_markWriteS p_1 ((l_markTable p_0 1).1) (OwnL.mut gW (OwnL.ex gW (OwnL.ex gW q640 hE644) hE761) hm805 kR) oM Bo) ?_)))))))
             rintro v813 w812 ⟨rfl, h815, hm814⟩
             have hm814z := Mut.size hm814
             have hrf816 := rf_markWriteS p_1 ((l_markTable p_0 1).1) Bo
             refine sA rfl (dn (cR (sd rfl (yl_loadN ty44 rfl rfl ((Box.mut (Box.mut (Box.ex q650 hE761) hm805 kR) hm814 kR).cells (n := 3) rfl) rfl (sM rfl (sd rfl (yC en20 rfl (oc rfl (oc rfl oz)) (Cal.mono (c_l_markRowAct p_2 ((l_markWriteS p_1 ((l_markTable p_0 1).1)).1) (OwnL.mut gS (OwnL.mut gS (OwnL.ex gS q683 hE761) hm805 kR) hm814 kR) (OwnL.mut gS (OwnL.mut gS (OwnL.ex gS q689 hE761) hm805 kR) hm814 kR) oM oM oM Bo) ?_))))))))
             rintro v827 w826 ⟨rfl, h829, h830, hm828⟩
             have hm828z := Mut.size hm828
             have hrf831 := rf_markRowAct p_2 ((l_markWriteS p_1 ((l_markTable p_0 1).1)).1) Bo
             refine sA rfl (dn (CW.seq (cR (sM rfl (sd rfl (yl_lss rfl rfl rfl (sM rfl ?_)))))))
             refine bcD (q := ((l_markRowAct p_2 ((l_markWriteS p_1 ((l_markTable p_0 1).1)).1)).1) < 0) (fun hb832 hb832p => ?_) (fun hb832 hb832p => ?_)
             ·refine sz rfl rfl hb832 (sz rfl rfl hb832 (sz rfl rfl hb832 (sz rfl rfl hb832 (sd rfl (yl_pick_t rfl rfl hb832 rfl (sM rfl (sz rfl rfl rfl (sz rfl rfl rfl (sz rfl rfl rfl ?_)))))))))
              refine sd rfl (yl_pick_t rfl rfl rfl rfl (sM rfl (sz rfl rfl rfl (sz rfl rfl rfl (sz rfl rfl rfl (sd rfl (yl_pick_t rfl rfl rfl rfl (dn (CW.cond_t rfl rfl ?_)))))))))
              refine cR (sA rfl (dn (CW.ret (tr (rr rfl (.cons rfl .nil) ?_)))))
              rw [show (l_FnExactDoAct p_0 p_1 p_2) = (false) by simp only [l_FnExactDoAct, hb26, hb37, hb56, hb482, hb483, hb484, hb623, hb645, hb790, hb832, cL]]
              exact ⟨rfl, (Ex.mut (Ex.mut (Ex.mut (Ex.trans y0 hE761) hm805 kR) hm814 kR) hm828 kR)⟩
             ·refine sy rfl rfl hb832 (yM rfl rfl (sy rfl rfl hb832 (yM rfl rfl ?_)))
              have q851 := OwnL.mut gW (OwnL.mut gW (OwnL.mut gW (OwnL.ex gW (OwnL.ex gW (OwnL.ex gW (OwnL.ex gW (OwnL.ex gW h465 hE481) hE594) hE634) hE644) hE761) hm805 kR) hm814 kR) hm828 kR
              have q859 := RdS.mut gW (RdS.mut gW (RdS.mut gW (RdS.ex gW (RdS.ex gW (RdS.ex gW (RdS.ex gW (RdS.ex gW q478 hE481) hE594) hE634) hE644) hE761) hm805 kJ) hm814 kJ) hm828 kJ
              refine sy rfl rfl hb832 (yC en15 rfl (oc rfl (oc rfl oz)) (Cal.mono (c_l_eqWriteS ((i_DoAct p_0 p_1 p_2).1) ((s_DoAct p_0 p_1 p_2).1) (RdS.up (OwnL.rd gW q851) gW) (RdS.up q859 gW)) ?_))
              rintro v861 w860 ⟨rfl, hE862⟩
              have hE862z := Ex.size hE862
              have y1 := Ex.trans (Ex.mut (Ex.mut (Ex.mut (Ex.trans y0 hE761) hm805 kR) hm814 kR) hm828 kR) hE862
              refine sy rfl rfl hb832 (yl_not rfl rfl (sd rfl (yl_pick_f rfl rfl hb832 rfl (sM rfl (sy rfl rfl (not_t hb482) (yM rfl rfl (sy rfl rfl (not_t hb482) (yM rfl rfl (sy rfl rfl (not_t hb482) (yl_bneq un4 rfl rfl rfl (sd rfl (yl_pick_f rfl rfl (not_t hb482) rfl (sM rfl (sy rfl rfl (not_t hb483) (yM rfl rfl ?_)))))))))))))))
              refine sy rfl rfl (not_t hb483) (yM rfl rfl (sy rfl rfl (not_t hb483) (yl_bneq un4 rfl rfl rfl (sd rfl (yl_pick_f rfl rfl (not_t hb483) rfl (dn (CW.cond_f rfl (not_t hb484) (CW.skip (tn (CW.seq ?_))))))))))
              refine CW.region (sA rfl (dn (cR (sM rfl (sM rfl (sd rfl (yC en19 rfl (oc rfl (oc rfl oz)) (Cal.mono (c_l_markWriteS ((i_DoAct p_0 p_1 p_2).1) 1 (OwnL.ex gW q851 hE862) oM Bo) ?_))))))))
              rintro v865 w864 ⟨rfl, h867, hm866⟩
              have hm866z := Mut.size hm866
              have hrf868 := rf_markWriteS ((i_DoAct p_0 p_1 p_2).1) 1 Bo
              refine sA rfl (dn (cR (sA rfl (dn (CW.seq ?_)))))
              refine CW.region (sM rfl (sM rfl ?_))
              have hle869 := OwnL.len h867
              refine sd rfl (yC en21 rfl (oc rfl (oc rfl oz)) (Cal.mono (Cal.args (by rw [← hle869] <;> rfl) (c_l_heldWriteS ((l_markWriteS ((i_DoAct p_0 p_1 p_2).1) 1).2) 1 (RdS.fix (RdS.up (OwnL.rd gW h867) gW)) Bo)) ?_))
              rintro v872 w871 ⟨rfl, hE873⟩
              have hE873z := Ex.size hE873
              have hrf874 := rf_heldWriteS ((l_markWriteS ((i_DoAct p_0 p_1 p_2).1) 1).2) 1 Bo
              refine sA rfl (dn (CW.seq (cR (sM rfl (sd rfl (yl_lss rfl rfl rfl (SeqR.done ?_)))))))
              refine tn (bcD (q := (l_heldWriteS ((l_markWriteS ((i_DoAct p_0 p_1 p_2).1) 1).2) 1) < 0) (fun hb875 hb875p => ?_) (fun hb875 hb875p => ?_))
              ·refine CW.cond_t rfl hb875 (cR (sA rfl (dn (CW.ret (tr (rr rfl (.cons rfl .nil) ?_))))))
               rw [show (l_FnExactDoAct p_0 p_1 p_2) = (false) by simp only [l_FnExactDoAct, hb26, hb37, hb56, hb482, hb483, hb484, hb623, hb645, hb790, hb832, hb875, cL]]
               have q887 := Ex.mut y1 hm866 kR
               exact ⟨rfl, (Ex.trans q887 hE873)⟩
              ·refine CW.cond_f rfl hb875 (CW.skip (tn (CW.seq (cR (sM rfl (sM rfl (sd rfl (yl_neq rfl rfl rfl ?_))))))))
               refine dn (bcD (q := (l_heldWriteS ((l_markWriteS ((i_DoAct p_0 p_1 p_2).1) 1).2) 1) = ((l_markWriteS ((i_DoAct p_0 p_1 p_2).1) 1).1)) (fun hb889 hb889p => ?_) (fun hb889 hb889p => ?_))
               ·refine CW.cond_f rfl (not_t hb889) (CW.skip (tn (CW.seq ?_)))
                have q908 := RdS.mut gS (RdS.ex gS (RdS.mut gS (RdS.mut gS (RdS.mut gS (RdS.ex gS (RdS.ex gS (RdS.ex gS (RdS.ex gS q504 hE594) hE634) hE644) hE761) hm805 kJ) hm814 kJ) hm828 kJ) hE862) hm866 kJ
                have q918 := RdS.mut gI (RdS.ex gI (RdS.mut gI (RdS.mut gI (RdS.mut gI (RdS.ex gI (RdS.ex gI (RdS.ex gI (RdS.ex gI q513 hE594) hE634) hE644) hE761) hm805 kJ) hm814 kJ) hm828 kJ) hE862) hm866 kJ
                have q930 := RdS.mut gW (RdS.ex gW (RdS.mut gW (RdS.mut gW (RdS.mut gW (RdS.ex gW (RdS.ex gW (RdS.ex gW q630 hE634) hE644) hE761) hm805 kJ) hm814 kJ) hm828 kJ) hE862) hm866 kJ
                have q946 := RdS.mut gS (RdS.ex gS (RdS.mut gS (RdS.mut gS (RdS.mut gS (RdS.ex gS q666 hE761) hm805 kJ) hm814 kJ) hm828 kJ) hE862) hm866 kJ
                have q953 := RdS.mut gS (RdS.ex gS (RdS.mut gS (RdS.mut gS (RdS.mut gS (RdS.ex gS q674 hE761) hm805 kJ) hm814 kJ) hm828 kJ) hE862) hm866 kJ
                have q968 := Ex.mut y1 hm866 kR
                have q969 := Ex.trans q968 hE873
                refine CW.drawsI 14 (vgetI [DetI (.agg #[.string (bs (p_0.Name)), .slice A1 p_0.Cols.length c1, .slice A2 p_0.Idxs.length c2]), fun lo hi v wq => ∃ A921 c921 lo921 hi921 A922 c922 lo922 hi922, v = .agg #[.string (bs (p_0.Name)), .slice A921 p_0.Cols.length c921, .slice A922 p_0.Idxs.length c922] ∧ OwnL wq lo921 hi921 9 1 (RF e_Str) A921 p_0.Cols.length c921 p_0.Cols ∧ OwnL wq lo922 hi922 111 3 (RF e_Idx) A922 p_0.Idxs.length c922 p_0.Idxs ∧ (lo ≤ lo921 ∧ lo921 ≤ hi921 ∧ hi921 ≤ hi) ∧ (lo ≤ lo922 ∧ lo922 ≤ hi922 ∧ hi922 ≤ hi) ∧ (hi921 ≤ lo922 ∨ hi922 ≤ lo921), DetI (.slice A3 p_1.length c3), fun lo hi v wq => ∃ A933 c933 lo933 hi933, v = .slice A933 p_1.length c933 ∧ OwnL wq lo933 hi933 80 3 (RF e_Write) A933 p_1.length c933 p_1 ∧ (lo ≤ lo933 ∧ lo933 ≤ hi933 ∧ hi933 ≤ hi), DetI (.agg #[.int .i64 (p_2.Kind), .slice A4 p_2.Old.Vals.length c4, .slice A5 p_2.New.Vals.length c5]), fun lo hi v wq => ∃ A956 c956 lo956 hi956 A957 c957 lo957 hi957, v = .agg #[.int .i64 (p_2.Kind), .slice A956 p_2.Old.Vals.length c956, .slice A957 p_2.New.Vals.length c957] ∧ OwnL wq lo956 hi956 9 1 (RF e_Str) A956 p_2.Old.Vals.length c956 p_2.Old.Vals ∧ OwnL wq lo957 hi957 9 1 (RF e_Str) A957 p_2.New.Vals.length c957 p_2.New.Vals ∧ (lo ≤ lo956 ∧ lo956 ≤ hi956 ∧ hi956 ≤ hi) ∧ (lo ≤ lo957 ∧ lo957 ≤ hi957 ∧ hi957 ≤ hi) ∧ (hi956 ≤ lo957 ∨ hi957 ≤ lo956), fun lo hi v wq => ∃ A971 c971 lo971 hi971, v = .tuple #[.slice A971 (((i_DoAct p_0 p_1 p_2).1).length) c971, .bool ((i_DoAct p_0 p_1 p_2).2.1), .bool ((i_DoAct p_0 p_1 p_2).2.2)] ∧ OwnL wq lo971 hi971 80 3 (RF e_Write) A971 (((i_DoAct p_0 p_1 p_2).1).length) c971 ((i_DoAct p_0 p_1 p_2).1) ∧ (okL ok_Write) ((i_DoAct p_0 p_1 p_2).1) ∧ (lo ≤ lo971 ∧ lo971 ≤ hi971 ∧ hi971 ≤ hi), fun lo hi v wq => ∃ A971 c971, v = .tuple #[.slice A971 (((i_DoAct p_0 p_1 p_2).1).length) c971, .bool ((i_DoAct p_0 p_1 p_2).2.1), .bool ((i_DoAct p_0 p_1 p_2).2.2)] ∧ RdS wq (Ge w871.heap.size) (RF e_Write) 3 A971 ((i_DoAct p_0 p_1 p_2).1).length c971 ((i_DoAct p_0 p_1 p_2).1), fun lo hi v wq => ∃ A971 c971, v = .slice A971 (((i_DoAct p_0 p_1 p_2).1).length) c971 ∧ RdS wq (Ge w871.heap.size) (RF e_Write) 3 A971 ((i_DoAct p_0 p_1 p_2).1).length c971 ((i_DoAct p_0 p_1 p_2).1), DetI (.bool ((i_DoAct p_0 p_1 p_2).2.1)), DetI (.bool ((i_DoAct p_0 p_1 p_2).2.2)), fun lo hi v wq => ∃ A971 c971, v = .slice A971 (((i_DoAct p_0 p_1 p_2).1).length) c971 ∧ RdS wq (Ge w871.heap.size) (RF e_Write) 3 A971 ((i_DoAct p_0 p_1 p_2).1).length c971 ((i_DoAct p_0 p_1 p_2).1), DetI (.bool ((i_DoAct p_0 p_1 p_2).2.1)), DetI (.bool ((i_DoAct p_0 p_1 p_2).2.2))]) Tryz.follows rfl rfl rfl rfl rfl rfl (vgetI_stable ⟨StableI.det _, (fun _ _ _ _ _ ⟨A921, c921, lo921, hi921, A922, c922, lo922, hi922, hv, h921, h922, hr0, hr1, hr2⟩ e => ⟨A921, c921, lo921, hi921, A922, c922, lo922, hi922, hv, OwnL.ex gS h921 e, OwnL.ex gI h922 e, hr0, hr1, hr2⟩), StableI.det _, (fun _ _ _ _ _ ⟨A933, c933, lo933, hi933, hv, h933, hr0⟩ e => ⟨A933, c933, lo933, hi933, hv, OwnL.ex gW h933 e, hr0⟩), StableI.det _, (fun _ _ _ _ _ ⟨A956, c956, lo956, hi956, A957, c957, lo957, hi957, hv, h956, h957, hr0, hr1, hr2⟩ e => ⟨A956, c956, lo956, hi956, A957, c957, lo957, hi957, hv, OwnL.ex gS h956 e, OwnL.ex gS h957 e, hr0, hr1, hr2⟩), (fun _ _ _ _ _ ⟨A971, c971, lo971, hi971, hv, h971, ho972, hr0⟩ e => ⟨A971, c971, lo971, hi971, hv, OwnL.ex gW h971 e, ho972, hr0⟩), (fun _ _ _ _ _ ⟨A971, c971, hv, h973⟩ e => ⟨A971, c971, hv, RdS.ex gW h973 e⟩), (fun _ _ _ _ _ ⟨A971, c971, hv, h974⟩ e => ⟨A971, c971, hv, RdS.ex gW h974 e⟩), StableI.det _, StableI.det _, (fun _ _ _ _ _ ⟨A971, c971, hv, h975⟩ e => ⟨A971, c971, hv, RdS.ex gW h975 e⟩), StableI.det _, StableI.det _, trivial⟩) ⟨?_, ?_, ?_, ?_, ?_, ?_, ?_, ?_, ?_, ?_, ?_, ?_, ?_, ?_, trivial⟩ ?_
                ·intro L976 w977 hi978
                 have hE979 := hi978.ex
                 have hE979z := Ex.size hE979
                 exact os rfl ((yl_loadN ty25 rfl (hi978.old 3 _ rfl rfl) ((Box.ex (Box.ex (Box.mut (Box.ex (Box.mut (Box.mut (Box.mut (Box.ex (Box.ex (Box.ex (Box.ex q495 hE594) hE634) hE644) hE761) hm805 kR) hm814 kR) hm828 kR) hE862) hm866 kR) hE873) hE979).cells (n := 3) rfl) rfl kI))
                ·intro L982 w983 hi984
                 have hE985 := hi984.ex
                 refine OpR.op' rfl (yC en11 rfl (oc (hi984.dt 0 131 rfl rfl rfl) oz) (Cal.mono (c_l_toTable p_0 (RdS.up (RdS.ex gS (RdS.ex gS q908 hE873) hE985) gS) (RdS.up (RdS.ex gI (RdS.ex gI q918 hE873) hE985) gI) ((szok_Table pre0 (by decide) (dec_f hb26)).1)) ?_))
                 rintro v992 w989 ⟨A990, c990, lo990, hi990, A991, c991, lo991, hi991, rfl, h990, h991, hrn994, hrn995, hrn996, hE993⟩
                 exact ⟨⟨A990, c990, lo990, hi990, A991, c991, lo991, hi991, rfl, h990, h991, hrn994, hrn995, hrn996⟩, hE993⟩
                ·exact oI rfl fun h => yM rfl (h.old 1 _ rfl rfl) kI
                ·intro L1002 w1003 hi1004
                 have hE1005 := hi1004.ex
                 refine OpR.op' rfl (yC en12 rfl (oc (hi1004.dt 2 133 rfl rfl rfl) oz) (Cal.mono (c_l_toWriteS p_1 (RdS.up (RdS.ex gW (RdS.ex gW q930 hE873) hE1005) gW) ((szok_WriteS pre1 (szok_Table pre0 (by decide) (dec_f hb26)).2 (dec_f hb37)).1)) ?_))
                 rintro v1010 w1008 ⟨A1009, c1009, lo1009, hi1009, rfl, h1009, hrn1012, hE1011⟩
                 exact ⟨⟨A1009, c1009, lo1009, hi1009, rfl, h1009, hrn1012⟩, hE1011⟩
                ·intro L1013 w1014 hi1015
                 have hE1016 := hi1015.ex
                 have hE1016z := Ex.size hE1016
                 exact os rfl ((yl_loadN ty30 rfl (hi1015.old 5 _ rfl rfl) ((Box.ex (Box.ex (Box.mut (Box.ex (Box.mut (Box.mut (Box.mut (Box.ex q658 hE761) hm805 kR) hm814 kR) hm828 kR) hE862) hm866 kR) hE873) hE1016).cells (n := 3) rfl) rfl kI))
                ·intro L1019 w1020 hi1021
                 have hE1022 := hi1021.ex
                 refine OpR.op' rfl (yC en13 rfl (oc (hi1021.dt 4 135 rfl rfl rfl) oz) (Cal.mono (c_l_toRowAct p_2 (RdS.up (RdS.ex gS (RdS.ex gS q946 hE873) hE1022) gS) (RdS.up (RdS.ex gS (RdS.ex gS q953 hE873) hE1022) gS) ((szok_RowAct pre2 (szok_WriteS pre1 (szok_Table pre0 (by decide) (dec_f hb26)).2 (dec_f hb37)).2 (dec_f hb56)).1)) ?_))
                 rintro v1029 w1026 ⟨A1027, c1027, lo1027, hi1027, A1028, c1028, lo1028, hi1028, rfl, h1027, h1028, hrn1031, hrn1032, hrn1033, hE1030⟩
                 exact ⟨⟨A1027, c1027, lo1027, hi1027, A1028, c1028, lo1028, hi1028, rfl, h1027, h1028, hrn1031, hrn1032, hrn1033⟩, hE1030⟩
                ·intro L1034 w1035 hi1036
                 have hE1037 := hi1036.ex
                 obtain ⟨lo1039, hh1040, _, hx1038, hr1041, hr1042, hr1043, A921_1044, c921_1045, lo921_1046, hi921_1047, A922_1048, c922_1049, lo922_1050, hi922_1051, rfl, h1052, h1053, hrn1054, hrn1055, hrn1056⟩ := hi1036.dep 1 132 rfl rfl
                 obtain ⟨lo1058, hh1059, _, hx1057, hr1060, hr1061, hr1062, A933_1063, c933_1064, lo933_1065, hi933_1066, rfl, h1067, hrn1068⟩ := hi1036.dep 3 134 rfl rfl
                 obtain ⟨lo1070, hh1071, _, hx1069, hr1072, hr1073, hr1074, A956_1075, c956_1076, lo956_1077, hi956_1078, A957_1079, c957_1080, lo957_1081, hi957_1082, rfl, h1083, h1084, hrn1085, hrn1086, hrn1087⟩ := hi1036.dep 5 136 rfl rfl
                 refine OpR.op' rfl (yC en14 rfl (oc hx1038 (oc hx1057 (oc hx1069 oz))) (Cal.mono (c_i_DoAct p_0 p_1 p_2 (RdS.up (OwnL.rd gS h1052) gS) (RdS.up (OwnL.rd gI h1053) gI) (RdS.up (OwnL.rd gW h1067) gW) (RdS.up (OwnL.rd gS h1083) gS) (RdS.up (OwnL.rd gS h1084) gS) ((szok_Table pre0 (by decide) (dec_f hb26)).1) ((szok_WriteS pre1 (szok_Table pre0 (by decide) (dec_f hb26)).2 (dec_f hb37)).1) ((szok_RowAct pre2 (szok_WriteS pre1 (szok_Table pre0 (by decide) (dec_f hb26)).2 (dec_f hb37)).2 (dec_f hb56)).1) (hgb.ex (Ex.trans q969 hE1037))) ?_))
                 rintro v1097 w1094 ⟨A1095, c1095, lo1095, hi1095, rfl, h1095, ho1096, hrn1099, hE1098⟩
                 exact ⟨⟨A1095, c1095, lo1095, hi1095, rfl, h1095, ho1096, hrn1099⟩, hE1098⟩
                ·intro L1100 w1101 hi1102
                 have hE1103 := hi1102.ex
                 have hE1103z := Ex.size hE1103
                 obtain ⟨lo1105, hh1106, _, hx1104, hr1107, hr1108, hr1109, A971_1110, c971_1111, lo971_1112, hi971_1113, rfl, h1114, h1115, hrn1116⟩ := hi1102.dep 6 137 rfl rfl
                 exact os rfl ((yM rfl hx1104 ⟨fun _ _ => ⟨A971_1110, c971_1111, rfl, (RdS.ivG gW (OwnL.rd gW h1114) oM)⟩, rfl⟩))
                ·intro L1117 w1118 hi1119
                 obtain ⟨lo1122, hh1123, _, hx1121, hr1124, hr1125, hr1126, A971_1127, c971_1128, rfl, h1129⟩ := hi1119.dep 7 130 rfl rfl
                 exact os rfl ((yl_extract rfl hx1121 rfl ⟨fun _ _ => ⟨A971_1127, c971_1128, rfl, h1129⟩, rfl⟩))
                ·intro L1130 w1131 hi1132
                 obtain ⟨lo1135, hh1136, _, hx1134, hr1137, hr1138, hr1139, A971_1140, c971_1141, rfl, h1142⟩ := hi1132.dep 7 130 rfl rfl
                 exact os rfl ((yl_extract rfl hx1134 rfl kI))
                ·intro L1143 w1144 hi1145
                 obtain ⟨lo1148, hh1149, _, hx1147, hr1150, hr1151, hr1152, A971_1153, c971_1154, rfl, h1155⟩ := hi1145.dep 7 130 rfl rfl
                 exact os rfl ((yl_extract rfl hx1147 rfl kI))
                ·intro L1156 w1157 hi1158
                 obtain ⟨lo1161, hh1162, _, hx1160, hr1163, hr1164, hr1165, A971_1166, c971_1167, rfl, h1168⟩ := hi1158.dep 8 138 rfl rfl
                 exact os rfl ((yA rfl hx1160 ⟨fun _ _ => ⟨A971_1166, c971_1167, rfl, h1168⟩, rfl⟩))
                ·exact oI rfl fun h => yA rfl (h.dt 9 139 rfl rfl rfl) kI
                ·exact oI rfl fun h => yA rfl (h.dt 10 140 rfl rfl rfl) kI
                ·intro fl1182 fh1183 L1179 w1180 hp1181
                 have hE1184 := hp1181.ex
                 have hE1184z := Ex.size hE1184
                 have hr1191 := hp1181.rng 1 rfl
                 obtain ⟨_, hx1190, A921_1192, c921_1193, lo921_1194, hi921_1195, A922_1196, c922_1197, lo922_1198, hi922_1199, rfl, h1200, h1201, hrn1202, hrn1203, hrn1204⟩ := hp1181.new 1 132 rfl rfl
                 have hr1206 := hp1181.rng 3 rfl
                 have hsp1207 := hp1181.sep 1 3 rfl rfl rfl
                 obtain ⟨_, hx1205, A933_1208, c933_1209, lo933_1210, hi933_1211, rfl, h1212, hrn1213⟩ := hp1181.new 3 134 rfl rfl
                 have hr1215 := hp1181.rng 5 rfl
                 have hsp1216 := hp1181.sep 1 5 rfl rfl rfl
                 have hsp1217 := hp1181.sep 3 5 rfl rfl rfl
                 obtain ⟨_, hx1214, A956_1218, c956_1219, lo956_1220, hi956_1221, A957_1222, c957_1223, lo957_1224, hi957_1225, rfl, h1226, h1227, hrn1228, hrn1229, hrn1230⟩ := hp1181.new 5 136 rfl rfl
                 have hr1232 := hp1181.rng 6 rfl
                 have hsp1233 := hp1181.sep 1 6 rfl rfl rfl
                 have hsp1234 := hp1181.sep 3 6 rfl rfl rfl
                 have hsp1235 := hp1181.sep 5 6 rfl rfl rfl
                 obtain ⟨_, hx1231, A971_1236, c971_1237, lo971_1238, hi971_1239, rfl, h1240, h1241, hrn1242⟩ := hp1181.new 6 137 rfl rfl
                 obtain ⟨_, hx1243, A971_1244, c971_1245, rfl, h1246⟩ := hp1181.new 11 20 rfl rfl
                 have hq1247 := RdS.wideG gW h1246 (Nat.le_refl _)
                 refine dn (CW.sub (sC 8 (hp1181.old 8 _ rfl rfl) (sC 9 (hp1181.old 9 _ rfl rfl) (sC 10 (hp1181.old 10 _ rfl rfl) (sC 14 (hp1181.old 14 _ rfl rfl) (sC 18 (hp1181.old 18 _ rfl rfl) (sC 20 hx1243 (sC 21 (hp1181.nt 12 21 rfl rfl rfl) (sC 22 (hp1181.nt 13 22 rfl rfl rfl) (Sub.nil _))))))))) (CW.seq (cR (sM rfl (sM rfl (sd rfl (yC en15 rfl (oc rfl (oc rfl oz)) (Cal.mono (c_l_eqWriteS ((i_DoAct p_0 p_1 p_2).1) ((s_DoAct p_0 p_1 p_2).1) (RdS.up hq1247 gW) (RdS.up (RdS.ex gW (RdS.ex gW (RdS.mut gW (RdS.ex gW q859 hE862) hm866 kJ) hE873) hE1184) gW)) ?_))))))))
                 rintro v1255 w1254 ⟨rfl, hE1256⟩
                 have hE1256z := Ex.size hE1256
                 refine sd rfl (yl_not rfl rfl (sM rfl (sy rfl rfl (not_t hb482) (yM rfl rfl (sy rfl rfl (not_t hb482) (yM rfl rfl (sy rfl rfl (not_t hb482) (yl_bneq un4 rfl rfl rfl (sd rfl (yl_pick_f rfl rfl (not_t hb482) rfl (sM rfl (sy rfl rfl (not_t hb483) (yM rfl rfl (sy rfl rfl (not_t hb483) (yM rfl rfl ?_)))))))))))))))
                 refine sy rfl rfl (not_t hb483) (yl_bneq un4 rfl rfl rfl (sd rfl (yl_pick_f rfl rfl (not_t hb483) rfl (dn (CW.cond_f rfl (not_t hb484) (CW.skip (tn (cR ?_))))))))
                 refine sA rfl (dn (cR (sM rfl (sM rfl ?_))))
                 have q1260 := OwnL.ex gW (OwnL.ex gW (OwnL.ex gW h867 hE873) hE1184) hE1256
                 have hle1257 := OwnL.len q1260
                 refine sd rfl (yC en21 rfl (oc rfl (oc rfl oz)) (Cal.mono (Cal.args (by rw [← hle1257] <;> rfl) (c_l_heldWriteS ((l_markWriteS ((i_DoAct p_0 p_1 p_2).1) 1).2) 1 (RdS.fix (RdS.up (OwnL.rd gW q1260) gW)) Bo)) ?_))
                 rintro v1263 w1262 ⟨rfl, hE1264⟩
                 have hE1264z := Ex.size hE1264
                 have hrf1265 := rf_heldWriteS ((l_markWriteS ((i_DoAct p_0 p_1 p_2).1) 1).2) 1 Bo
                 refine sA rfl (dn (CW.seq (cR (sM rfl (sd rfl (yl_lss rfl rfl rfl (SeqR.done ?_)))))))
                 refine tn (CW.cond_f rfl hb875 (CW.skip (tn (CW.seq (cR (sM rfl (sM rfl ?_)))))))
                 refine sd rfl (yl_neq rfl rfl rfl (dn (CW.cond_f rfl (not_t hb889) (CW.skip (tn (cR (sA rfl ?_)))))))
                 refine dn (CW.ret (rr rfl (.cons rfl .nil) ?_))
                 rw [show (l_FnExactDoAct p_0 p_1 p_2) = (true) by simp only [l_FnExactDoAct, hb26, hb37, hb56, hb482, hb483, hb484, hb623, hb645, hb790, hb832, hb875, hb889, cL]]
                 exact ⟨rfl, (Ex.trans (Ex.trans (Ex.trans q969 hE1184) hE1256) hE1264)⟩
               ·refine CW.cond_t rfl (not_f hb889) (cR (sA rfl (dn (CW.ret (tr (rr rfl (.cons rfl .nil) ?_))))))
                rw [show (l_FnExactDoAct p_0 p_1 p_2) = (false) by simp only [l_FnExactDoAct, hb26, hb37, hb56, hb482, hb483, hb484, hb623, hb645, hb790, hb832, hb875, hb889, cL]]
                have q1281 := Ex.mut y1 hm866 kR
                exact ⟨rfl, (Ex.trans q1281 hE873)⟩
            ·refine CW.cond_t rfl (not_f hb790) (cR (sA rfl (dn (CW.ret (tr (rr rfl (.cons rfl .nil) ?_))))))
             rw [show (l_FnExactDoAct p_0 p_1 p_2) = (false) by simp only [l_FnExactDoAct, hb26, hb37, hb56, hb482, hb483, hb484, hb623, hb645, hb790, cL]]
             exact ⟨rfl, (Ex.trans y0 hE761)⟩
          ·refine CW.cond_t rfl (not_f hb645) (cR (sA rfl (dn (CW.ret (tr (rr rfl (.cons rfl .nil) ?_))))))
           rw [show (l_FnExactDoAct p_0 p_1 p_2) = (false) by simp only [l_FnExactDoAct, hb26, hb37, hb56, hb482, hb483, hb484, hb623, hb645, cL]]
           exact ⟨rfl, y0⟩
         ·refine CW.cond_t rfl (not_f hb623) (cR (sA rfl (dn (CW.ret (tr (rr rfl (.cons rfl .nil) ?_))))))
          rw [show (l_FnExactDoAct p_0 p_1 p_2) = (false) by simp only [l_FnExactDoAct, hb26, hb37, hb56, hb482, hb483, hb484, hb623, cL]]
          exact ⟨rfl, (Ex.trans (Ex.trans (Ex.trans q463 hE468) hE481) hE594)⟩
       ·refine CW.cond_t rfl (not_f hb484) (cR (sA rfl (dn (CW.ret (tr (rr rfl (.cons rfl .nil) ?_))))))
        rw [show (l_FnExactDoAct p_0 p_1 p_2) = (false) by simp only [l_FnExactDoAct, hb26, hb37, hb56, hb482, hb483, hb484, cL]]
        exact ⟨rfl, (Ex.trans (Ex.trans q463 hE468) hE481)⟩
      ·refine sz rfl rfl (not_f hb483) (sz rfl rfl (not_f hb483) (sz rfl rfl (not_f hb483) (sd rfl (yl_pick_t rfl rfl (not_f hb483) rfl (dn (CW.cond_t rfl rfl (cR ?_)))))))
       refine sA rfl (dn (CW.ret (tr (rr rfl (.cons rfl .nil) ?_))))
       rw [show (l_FnExactDoAct p_0 p_1 p_2) = (false) by simp only [l_FnExactDoAct, hb26, hb37, hb56, hb482, hb483, cL]]
       exact ⟨rfl, (Ex.trans (Ex.trans q463 hE468) hE481)⟩
     ·refine sz rfl rfl (not_f hb482) (sz rfl rfl (not_f hb482) (sz rfl rfl (not_f hb482) (sd rfl (yl_pick_t rfl rfl (not_f hb482) rfl (sM rfl (sz rfl rfl rfl (sz rfl rfl rfl (sz rfl rfl rfl (sd rfl (yl_pick_t rfl rfl rfl rfl ?_))))))))))
      refine dn (CW.cond_t rfl rfl (cR (sA rfl (dn (CW.ret ?_)))))
      refine tr (rr rfl (.cons rfl .nil) ?_)
      rw [show (l_FnExactDoAct p_0 p_1 p_2) = (false) by simp only [l_FnExactDoAct, hb26, hb37, hb56, hb482, cL]]
      exact ⟨rfl, (Ex.trans (Ex.trans q463 hE468) hE481)⟩
end Go.Proofs.YtoimdjojffkefaaGreatDoor
