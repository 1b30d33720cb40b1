/- Is Filled: what each call returns, part 2. -/
import Derived.Test.YtdbobbmagmcpnaaGreatDoorIsFilledC1
set_option maxRecDepth 100000
set_option maxHeartbeats 2000000
open Go.Proofs.Tryz Go.Proofs.YtdbobbmagmcpnaaGreatDoor.Tryz
set_option linter.unusedVariables false
set_option linter.unusedSimpArgs false
namespace Go.Proofs.YtdbobbmagmcpnaaGreatDoor
open Go.RowKit Go.X
theorem c_s_l27Ways {A1 : Option Addr} {c1 : Nat} {A2 : Option Addr} {c2 : Nat} {A3 : Option Addr} {c3 : Nat} {w : World} (p_0 : DShift) (h1 : RdS w (Iv 0 w.heap.size) R_Table 3 A1 p_0.Ways.length c1 p_0.Ways) (h2 : RdS w (Iv 0 w.heap.size) (RF e_Int) 1 A2 p_0.At.length c2 p_0.At) (h3 : RdS w (Iv 0 w.heap.size) (RF e_Write) 3 A3 p_0.Store.length c3 p_0.Store) (o4 : ok_Shift p_0) : Cal Tryz.prog 105 #[.agg #[.string (bs (p_0.Name)), .slice A1 p_0.Ways.length c1, .slice A2 p_0.At.length c2, .slice A3 p_0.Store.length c3]] w fun v w' => v = .bool ((s_l27Ways p_0)) ∧ Ex w w' := by
 have hol5 : p_0.Name.length ≤ 1073741824 := o4.1
 have hol6 := o4.2.1.1
 have hol7 := o4.2.2.1.1
 have hol8 := o4.2.2.2.1
 refine Cal.of func105 rfl ntmps105 rfl (CW.seq (CW.region (sd rfl (yl_box rfl rfl rfl ?_))))
 intro b9 w10 hs11 hz12 hB13 hE14
 refine sd rfl (yl_assign rfl rfl (dn (CW.seq (CW.seq (bcase (s_l1In (p_0.Ways.length : Int) 1 4) (fun hb16 => ?_) (fun hb16 => ?_))))))
 ·have hb16p := f_l1In hb16
  obtain ⟨_, _, _, _, _, ebl19, _, eR19, _⟩ := RdS.aD (RdS.ex good_Table h1 hE14) d_Table (i := 0)
  obtain ⟨A20, c20, A21, c21, rfl, h20, h21⟩ := eR19
  refine bcase (s_GoodTable (p_0.Ways.getD 0 d_Table)) (fun hb23 => ?_) (fun hb23 => ?_)
  ·have hb23p := f_s_GoodTable hb23
   have q25 := RdS.ex good_Table h1 hE14
   obtain ⟨eb26, eo26, _, eA26, _, ebl26, _, eR26, eC26⟩ := RdS.aD q25 d_Table (i := 0)
   obtain ⟨A27, c27, A28, c28, rfl, h27, h28⟩ := eR26
   have hrf31 := rf_s_l24Idx (p_0.Ways.getD 0 d_Table) p_0.Name
   refine CW.drawsI 23 (vgetI ([.pointer (some ⟨b9, 0 + 1, none⟩), .slice A1 p_0.Ways.length c1, .int .i64 ((p_0.Ways.length : Int)), .bool ((s_l1In (p_0.Ways.length : Int) 1 4)), .bool (!(s_l1In (p_0.Ways.length : Int) 1 4)), .bool (!(s_l1In (p_0.Ways.length : Int) 1 4)), .pointer (some ⟨b9, 0 + 1, none⟩), .slice A1 p_0.Ways.length c1, .pointer (some ⟨eb26, eo26 + 0 * 3, none⟩), .agg #[.string (bs ((p_0.Ways.getD 0 d_Table).Name)), .slice A27 (((p_0.Ways.getD 0 d_Table).Cols).length) c27, .slice A28 (((p_0.Ways.getD 0 d_Table).Idxs).length) c28], .bool ((s_GoodTable (p_0.Ways.getD 0 d_Table))), .bool (!(s_GoodTable (p_0.Ways.getD 0 d_Table))), .bool (!(s_GoodTable (p_0.Ways.getD 0 d_Table))), .bool (!(s_GoodTable (p_0.Ways.getD 0 d_Table))), .pointer (some ⟨b9, 0 + 1, none⟩), .slice A1 p_0.Ways.length c1, .pointer (some ⟨eb26, eo26 + 0 * 3, none⟩), .agg #[.string (bs ((p_0.Ways.getD 0 d_Table).Name)), .slice A27 (((p_0.Ways.getD 0 d_Table).Cols).length) c27, .slice A28 (((p_0.Ways.getD 0 d_Table).Idxs).length) c28], .pointer (some ⟨b9, 0 + 0, none⟩), .string (bs (p_0.Name)), .int .i64 ((s_l24Idx (p_0.Ways.getD 0 d_Table) p_0.Name)), .bool (decide ((s_l24Idx (p_0.Ways.getD 0 d_Table) p_0.Name) < 0)), .bool (decide ((s_l24Idx (p_0.Ways.getD 0 d_Table) p_0.Name) < 0))].map DetI)) Tryz.follows rfl rfl rfl rfl rfl rfl (vgetI_stable (stD _)) ⟨?_, ?_, ?_, ?_, ?_, ?_, ?_, ?_, ?_, ?_, ?_, ?_, ?_, ?_, ?_, ?_, ?_, ?_, ?_, ?_, ?_, ?_, ?_, trivial⟩ ?_
   ·exact oI rfl fun h => yl_fieldAddr fd58_1 rfl (h.old 1 _ rfl rfl) kI
   ·exact oI rfl fun h => yl_load1 ty56 rfl (h.dt 0 6 rfl rfl rfl) (((Box.ex hB13 h.ex).cell 1).trans rfl) kI
   ·exact oI rfl fun h => yl_len un56 rfl (h.dt 1 7 rfl rfl rfl) kI
   ·intro L48 w49 hi50
    exact OpR.op' rfl (yl_call en61 rfl (oc (hi50.dt 2 8 rfl rfl rfl) (oc rfl (oc rfl oz))) (Cal.mono (c_s_l1In (p_0.Ways.length : Int) 1 4) fun _ _ h => h))
   ·exact oI rfl fun h => yl_not rfl (h.dt 3 9 rfl rfl rfl) kI
   ·exact oI rfl fun h => yl_move rfl (h.dt 4 10 rfl rfl rfl) kI
   ·exact oW rfl rfl rfl rfl (not_t hb16) fun h => yl_fieldAddr fd58_1 rfl (h.old 1 _ rfl rfl) kI
   ·exact oW rfl rfl rfl rfl (not_t hb16) fun h => yl_load1 ty56 rfl (h.dt 6 12 rfl rfl rfl) (((Box.ex hB13 h.ex).cell 1).trans rfl) kI
   ·intro L79 w80 hi81
    have hE82 := hi81.ex
    have hE82z := Ex.size hE82
    exact OpR.want rfl rfl (hi81.dt 5 11 rfl rfl rfl) (not_t hb16) (Yl.sameI (yl_ixN un56 ty34 rfl (hi81.dt 7 13 rfl rfl rfl) rfl eA26 kI))
   ·exact oW rfl rfl rfl rfl (not_t hb16) fun h => yl_loadN ty34 rfl (h.dt 8 14 rfl rfl rfl) (Cells.ex eC26 h.ex) rfl kI
   ·intro L92 w93 hi94
    have hE95 := hi94.ex
    exact OpR.want rfl rfl (hi94.dt 5 11 rfl rfl rfl) (not_t hb16) (yl_call en26 rfl (oc (hi94.dt 9 15 rfl rfl rfl) oz) (Cal.mono (c_s_GoodTable (p_0.Ways.getD 0 d_Table) (RdS.up (RdS.ex good_Str h27 hE95) good_Str) (RdS.up (RdS.ex good_Idx h28 hE95) good_Idx) (okL.getD o4.2.1 ok_d_Table _)) fun _ _ h => h))
   ·exact oW rfl rfl rfl rfl (not_t hb16) fun h => yl_not rfl (h.dt 10 16 rfl rfl rfl) kI
   ·exact oI rfl fun h => yl_pick_f rfl (h.dt 5 11 rfl rfl rfl) (not_t hb16) (h.dt 11 17 rfl rfl rfl) kI
   ·exact oI rfl fun h => yl_move rfl (h.dt 12 18 rfl rfl rfl) kI
   ·exact oW rfl rfl rfl rfl (not_t hb23) fun h => yl_fieldAddr fd58_1 rfl (h.old 1 _ rfl rfl) kI
   ·exact oW rfl rfl rfl rfl (not_t hb23) fun h => yl_load1 ty56 rfl (h.dt 14 20 rfl rfl rfl) (((Box.ex hB13 h.ex).cell 1).trans rfl) kI
   ·intro L133 w134 hi135
    have hE136 := hi135.ex
    have hE136z := Ex.size hE136
    exact OpR.want rfl rfl (hi135.dt 13 19 rfl rfl rfl) (not_t hb23) (Yl.sameI (yl_ixN un56 ty34 rfl (hi135.dt 15 21 rfl rfl rfl) rfl eA26 kI))
   ·exact oW rfl rfl rfl rfl (not_t hb23) fun h => yl_loadN ty34 rfl (h.dt 16 22 rfl rfl rfl) (Cells.ex eC26 h.ex) rfl kI
   ·exact oW rfl rfl rfl rfl (not_t hb23) fun h => yl_fieldAddr fd58_0 rfl (h.old 1 _ rfl rfl) kI
   ·exact oW rfl rfl rfl rfl (not_t hb23) fun h => yl_load1 ty9 rfl (h.dt 18 24 rfl rfl rfl) (((Box.ex hB13 h.ex).cell 0).trans rfl) kI
   ·intro L159 w160 hi161
    have hE162 := hi161.ex
    exact OpR.want rfl rfl (hi161.dt 13 19 rfl rfl rfl) (not_t hb23) (yl_call en81 rfl (oc (hi161.dt 17 23 rfl rfl rfl) (oc (hi161.dt 19 25 rfl rfl rfl) oz)) (Cal.mono (c_s_l24Idx (p_0.Ways.getD 0 d_Table) p_0.Name (RdS.up (RdS.ex good_Str h27 hE162) good_Str) (RdS.up (RdS.ex good_Idx h28 hE162) good_Idx) (okL.getD o4.2.1 ok_d_Table _) o4.1) fun _ _ h => h))
   ·exact oW rfl rfl rfl rfl (not_t hb23) fun h => yl_lss rfl (h.dt 20 26 rfl rfl rfl) rfl kI
   ·exact oI rfl fun h => yl_pick_f rfl (h.dt 13 19 rfl rfl rfl) (not_t hb23) (h.dt 21 27 rfl rfl rfl) kI
   ·intro fl186 fh187 L183 w184 hp185
    have hE188 := hp185.ex
    have hE188z := Ex.size hE188
    refine dn (CW.sub (Sub.cons (d := 1) (hp185.old 1 _ rfl rfl) (Sub.cons (d := 28) (hp185.nt 22 28 rfl rfl rfl) (Sub.nil _))) (bcase (decide ((s_l24Idx (p_0.Ways.getD 0 d_Table) p_0.Name) < 0)) (fun hb191 => ?_) (fun hb191 => ?_)))
    ·have hb191p := dec_t hb191
     refine CW.cond_t rfl hb191 (CW.seq (CW.region (sd rfl (yl_assign rfl rfl (dn (CW.ret (tr (rr rfl (.cons rfl .nil) ?_))))))))
     have hM192 : (s_l27Ways p_0) = (false) := by simp only [s_l27Ways, hb16, hb23, hb191, cL]
     rw [hM192]
     exact ⟨rfl, (Ex.trans (Ex.trans (Ex.refl w) hE14) hE188)⟩
    ·have hb191p := dec_f hb191
     refine CW.cond_f rfl hb191 (CW.skip (tn (CW.seq (CW.region (sd rfl (yl_fieldAddr fd58_1 rfl rfl ?_))))))
     have q195 := Box.ex hB13 hE188
     refine sd rfl (yl_load1 ty56 rfl rfl ((q195.cell 1).trans rfl) (sd rfl (yl_fieldAddr fd58_1 rfl rfl (sd rfl (yl_load1 ty56 rfl rfl ((q195.cell 1).trans rfl) (sd rfl (yl_len un56 rfl rfl (sd rfl (yl_sub rfl rfl rfl ?_)))))))))
     have q196 := RdS.ex good_Table q25 hE188
     obtain ⟨_, _, _, eA197, _, ebl197, _, eR197, eC197⟩ := RdS.atD q196 d_Table (i := (IntKind.wrap .i64 ((p_0.Ways.length : Int) - 1)).toNat) (by first | omega | assumption | (simp only [wI] at *; omega))
     obtain ⟨A198, c198, A199, c199, rfl, h198, h199⟩ := eR197
     refine sd rfl (yl_indexAddr un56 ty34 rfl rfl rfl eA197 (by first | omega | assumption | (simp only [wI] at *; omega)) (by first | omega | assumption | (simp only [wI] at *; omega)) (sd rfl (yl_loadN ty34 rfl rfl eC197 rfl (sd rfl (yl_alloc ty34 (cs := [.string (bs (([] : Str))), .slice none 0 0, .slice none 0 0]) rfl rfl ?_)))))
     intro b200 w201 hs202 hz203 hB204 hE205
     refine SeqR.u rfl rfl (yl_store (vs := [.string (bs ((p_0.Ways.getD ((IntKind.wrap .i64 ((p_0.Ways.length : Int) - 1)).toNat) d_Table).Name)), .slice A198 (((p_0.Ways.getD ((IntKind.wrap .i64 ((p_0.Ways.length : Int) - 1)).toNat) d_Table).Cols).length) c198, .slice A199 (((p_0.Ways.getD ((IntKind.wrap .i64 ((p_0.Ways.length : Int) - 1)).toNat) d_Table).Idxs).length) c199]) ty34 rfl rfl rfl rfl rfl rfl hB204 (Nat.le_of_ble_eq_true rfl) ?_)
     intro w206 hB207 hO208
     have hB207 : Box w206 b200 34 [.string (bs ((p_0.Ways.getD ((IntKind.wrap .i64 ((p_0.Ways.length : Int) - 1)).toNat) d_Table).Name)), .slice A198 (((p_0.Ways.getD ((IntKind.wrap .i64 ((p_0.Ways.length : Int) - 1)).toNat) d_Table).Cols).length) c198, .slice A199 (((p_0.Ways.getD ((IntKind.wrap .i64 ((p_0.Ways.length : Int) - 1)).toNat) d_Table).Idxs).length) c199] := hB207
     have hO208z := hO208.size
     refine dn (CW.seq (CW.seq (CW.region (sd rfl (yl_loadN ty34 rfl rfl (hB207.cells (n := 3) rfl) rfl ?_)))))
     have q210 := RdS.only good_Str (RdS.ex good_Str h198 hE205) hO208 (by simp only [Iv]; omega)
     have q212 := RdS.only good_Idx (RdS.ex good_Idx h199 hE205) hO208 (by simp only [Iv]; omega)
     refine sd rfl (yl_call en26 rfl (oc rfl oz) (Cal.mono (c_s_GoodTable (p_0.Ways.getD ((IntKind.wrap .i64 ((p_0.Ways.length : Int) - 1)).toNat) d_Table) (RdS.up q210 good_Str) (RdS.up q212 good_Idx) (okL.getD o4.2.1 ok_d_Table _)) ?_))
     rintro v214 w213 ⟨rfl, hE215⟩
     have hE215z := Ex.size hE215
     refine sd rfl (yl_not rfl rfl (sd rfl (yl_move rfl rfl (bcase (s_GoodTable (p_0.Ways.getD ((IntKind.wrap .i64 ((p_0.Ways.length : Int) - 1)).toNat) d_Table)) (fun hb216 => ?_) (fun hb216 => ?_)))))
     ·have hb216p := f_s_GoodTable hb216
      have q217 := Box.ex hB207 hE215
      refine sy rfl rfl (not_t hb216) (yl_loadN ty34 rfl rfl (q217.cells (n := 3) rfl) rfl (sy rfl rfl (not_t hb216) (yl_fieldAddr fd58_0 rfl rfl ?_)))
      have q220 := Box.ex (Box.only (Box.ex q195 hE205) hO208 (by omega)) hE215
      refine sy rfl rfl (not_t hb216) (yl_load1 ty9 rfl rfl ((q220.cell 0).trans rfl) ?_)
      have q221 := RdS.ex good_Str q210 hE215
      have q222 := RdS.ex good_Idx q212 hE215
      refine sy rfl rfl (not_t hb216) (yl_call en81 rfl (oc rfl (oc rfl oz)) (Cal.mono (c_s_l24Idx (p_0.Ways.getD ((IntKind.wrap .i64 ((p_0.Ways.length : Int) - 1)).toNat) d_Table) p_0.Name (RdS.up q221 good_Str) (RdS.up q222 good_Idx) (okL.getD o4.2.1 ok_d_Table _) o4.1) ?_))
      rintro v224 w223 ⟨rfl, hE225⟩
      have hE225z := Ex.size hE225
      have hrf226 := rf_s_l24Idx (p_0.Ways.getD ((IntKind.wrap .i64 ((p_0.Ways.length : Int) - 1)).toNat) d_Table) p_0.Name
      refine sy rfl rfl (not_t hb216) (yl_lss rfl rfl rfl (sd rfl (yl_pick_f rfl rfl (not_t hb216) rfl (dn (bcase (decide ((s_l24Idx (p_0.Ways.getD ((IntKind.wrap .i64 ((p_0.Ways.length : Int) - 1)).toNat) d_Table) p_0.Name) < 0)) (fun hb227 => ?_) (fun hb227 => ?_))))))
      ·have hb227p := dec_t hb227
       refine CW.cond_t rfl hb227 (CW.seq (CW.region (sd rfl (yl_assign rfl rfl (dn (CW.ret (tr (rr rfl (.cons rfl .nil) ?_))))))))
       have hM228 : (s_l27Ways p_0) = (false) := by simp only [s_l27Ways, hb16, hb23, hb191, hb216, hb227, cL]
       rw [hM228]
       exact ⟨rfl, (Ex.trans (Ex.trans (Below.only (Ex.trans (Ex.trans (Ex.trans (Ex.refl w) hE14) hE188) hE205) hO208 (by omega)) hE215) hE225)⟩
      ·have hb227p := dec_f hb227
       refine CW.cond_f rfl hb227 (CW.skip (tn (CW.seq ?_)))
       have q235 := Box.ex q220 hE225
       have q241 := Box.ex q217 hE225
       have q243 := RdS.ex good_Idx q222 hE225
       obtain ⟨eb245, eo245, _, eA245, _, ebl245, _, eR245, eC245⟩ := RdS.atD q243 d_Idx (i := ((s_l24Idx (p_0.Ways.getD ((IntKind.wrap .i64 ((p_0.Ways.length : Int) - 1)).toNat) d_Table) p_0.Name)).toNat) (by first | omega | assumption | (simp only [wI] at *; omega))
       obtain rfl := eR245
       have eC245 : Cells w223 eb245 (eo245 + (((s_l24Idx (p_0.Ways.getD ((IntKind.wrap .i64 ((p_0.Ways.length : Int) - 1)).toNat) d_Table) p_0.Name)).toNat) * 3) [.string (bs ((((p_0.Ways.getD ((IntKind.wrap .i64 ((p_0.Ways.length : Int) - 1)).toNat) d_Table).Idxs).getD (((s_l24Idx (p_0.Ways.getD ((IntKind.wrap .i64 ((p_0.Ways.length : Int) - 1)).toNat) d_Table) p_0.Name)).toNat) d_Idx).Name)), .int .i64 ((((p_0.Ways.getD ((IntKind.wrap .i64 ((p_0.Ways.length : Int) - 1)).toNat) d_Table).Idxs).getD (((s_l24Idx (p_0.Ways.getD ((IntKind.wrap .i64 ((p_0.Ways.length : Int) - 1)).toNat) d_Table) p_0.Name)).toNat) d_Idx).Col), .int .i64 ((((p_0.Ways.getD ((IntKind.wrap .i64 ((p_0.Ways.length : Int) - 1)).toNat) d_Table).Idxs).getD (((s_l24Idx (p_0.Ways.getD ((IntKind.wrap .i64 ((p_0.Ways.length : Int) - 1)).toNat) d_Table) p_0.Name)).toNat) d_Idx).Stage)] := eC245
       have hrf260 := rf_s_l24Idx (p_0.Ways.getD ((IntKind.wrap .i64 ((p_0.Ways.length : Int) - 1)).toNat) d_Table) p_0.Name
       refine CW.drawsI 17 (vgetI [DetI (.pointer (some ⟨b9, 0 + 1, none⟩)), DetI (.slice A1 p_0.Ways.length c1), DetI (.pointer (some ⟨eb26, eo26 + 0 * 3, none⟩)), DetI (.agg #[.string (bs ((p_0.Ways.getD 0 d_Table).Name)), .slice A27 (((p_0.Ways.getD 0 d_Table).Cols).length) c27, .slice A28 (((p_0.Ways.getD 0 d_Table).Idxs).length) c28]), DetI (.pointer (some ⟨b9, 0 + 0, none⟩)), DetI (.string (bs (p_0.Name))), DetI (.pointer (some ⟨b200, 0 + 2, none⟩)), DetI (.slice A199 (((p_0.Ways.getD ((IntKind.wrap .i64 ((p_0.Ways.length : Int) - 1)).toNat) d_Table).Idxs).length) c199), DetI (.agg #[.string (bs ((p_0.Ways.getD ((IntKind.wrap .i64 ((p_0.Ways.length : Int) - 1)).toNat) d_Table).Name)), .slice A198 (((p_0.Ways.getD ((IntKind.wrap .i64 ((p_0.Ways.length : Int) - 1)).toNat) d_Table).Cols).length) c198, .slice A199 (((p_0.Ways.getD ((IntKind.wrap .i64 ((p_0.Ways.length : Int) - 1)).toNat) d_Table).Idxs).length) c199]), DetI (.pointer (some ⟨b9, 0 + 0, none⟩)), DetI (.string (bs (p_0.Name))), DetI (.int .i64 ((s_l24Idx (p_0.Ways.getD ((IntKind.wrap .i64 ((p_0.Ways.length : Int) - 1)).toNat) d_Table) p_0.Name))), DetI (.pointer (some ⟨eb245, eo245 + (((s_l24Idx (p_0.Ways.getD ((IntKind.wrap .i64 ((p_0.Ways.length : Int) - 1)).toNat) d_Table) p_0.Name)).toNat) * 3, none⟩)), DetI (.pointer (some ⟨eb245, eo245 + (((s_l24Idx (p_0.Ways.getD ((IntKind.wrap .i64 ((p_0.Ways.length : Int) - 1)).toNat) d_Table) p_0.Name)).toNat) * 3 + 2, none⟩)), DetI (.int .i64 ((((p_0.Ways.getD ((IntKind.wrap .i64 ((p_0.Ways.length : Int) - 1)).toNat) d_Table).Idxs).getD (((s_l24Idx (p_0.Ways.getD ((IntKind.wrap .i64 ((p_0.Ways.length : Int) - 1)).toNat) d_Table) p_0.Name)).toNat) d_Idx).Stage)), fun lo hi v wq => ∃ A257 c257 lo257 hi257, v = .slice A257 ((s_l24Way (p_0.Ways.getD 0 d_Table) p_0.Name ((((p_0.Ways.getD ((IntKind.wrap .i64 ((p_0.Ways.length : Int) - 1)).toNat) d_Table).Idxs).getD (((s_l24Idx (p_0.Ways.getD ((IntKind.wrap .i64 ((p_0.Ways.length : Int) - 1)).toNat) d_Table) p_0.Name)).toNat) d_Idx).Stage)).length) c257 ∧ OwnD wq lo257 hi257 34 3 RO_Table A257 ((s_l24Way (p_0.Ways.getD 0 d_Table) p_0.Name ((((p_0.Ways.getD ((IntKind.wrap .i64 ((p_0.Ways.length : Int) - 1)).toNat) d_Table).Idxs).getD (((s_l24Idx (p_0.Ways.getD ((IntKind.wrap .i64 ((p_0.Ways.length : Int) - 1)).toNat) d_Table) p_0.Name)).toNat) d_Idx).Stage)).length) c257 (s_l24Way (p_0.Ways.getD 0 d_Table) p_0.Name ((((p_0.Ways.getD ((IntKind.wrap .i64 ((p_0.Ways.length : Int) - 1)).toNat) d_Table).Idxs).getD (((s_l24Idx (p_0.Ways.getD ((IntKind.wrap .i64 ((p_0.Ways.length : Int) - 1)).toNat) d_Table) p_0.Name)).toNat) d_Idx).Stage)) ∧ (okL ok_Table) (s_l24Way (p_0.Ways.getD 0 d_Table) p_0.Name ((((p_0.Ways.getD ((IntKind.wrap .i64 ((p_0.Ways.length : Int) - 1)).toNat) d_Table).Idxs).getD (((s_l24Idx (p_0.Ways.getD ((IntKind.wrap .i64 ((p_0.Ways.length : Int) - 1)).toNat) d_Table) p_0.Name)).toNat) d_Idx).Stage)) ∧ (lo ≤ lo257 ∧ lo257 ≤ hi257 ∧ hi257 ≤ hi), fun lo hi v wq => ∃ A257 c257, v = .slice A257 ((s_l24Way (p_0.Ways.getD 0 d_Table) p_0.Name ((((p_0.Ways.getD ((IntKind.wrap .i64 ((p_0.Ways.length : Int) - 1)).toNat) d_Table).Idxs).getD (((s_l24Idx (p_0.Ways.getD ((IntKind.wrap .i64 ((p_0.Ways.length : Int) - 1)).toNat) d_Table) p_0.Name)).toNat) d_Idx).Stage)).length) c257 ∧ RdS wq (Ge w223.heap.size) R_Table 3 A257 (s_l24Way (p_0.Ways.getD 0 d_Table) p_0.Name ((((p_0.Ways.getD ((IntKind.wrap .i64 ((p_0.Ways.length : Int) - 1)).toNat) d_Table).Idxs).getD (((s_l24Idx (p_0.Ways.getD ((IntKind.wrap .i64 ((p_0.Ways.length : Int) - 1)).toNat) d_Table) p_0.Name)).toNat) d_Idx).Stage)).length c257 (s_l24Way (p_0.Ways.getD 0 d_Table) p_0.Name ((((p_0.Ways.getD ((IntKind.wrap .i64 ((p_0.Ways.length : Int) - 1)).toNat) d_Table).Idxs).getD (((s_l24Idx (p_0.Ways.getD ((IntKind.wrap .i64 ((p_0.Ways.length : Int) - 1)).toNat) d_Table) p_0.Name)).toNat) d_Idx).Stage))]) Tryz.follows rfl rfl rfl rfl rfl rfl (vgetI_stable ⟨StableI.det _, StableI.det _, StableI.det _, StableI.det _, StableI.det _, StableI.det _, StableI.det _, StableI.det _, StableI.det _, StableI.det _, StableI.det _, StableI.det _, StableI.det _, StableI.det _, StableI.det _, (fun _ _ _ _ _ ⟨A257, c257, lo257, hi257, hv, h257, ho258, hr0⟩ e => ⟨A257, c257, lo257, hi257, hv, OwnD.ex goodO_Table h257 e, ho258, hr0⟩), (fun _ _ _ _ _ ⟨A257, c257, hv, h259⟩ e => ⟨A257, c257, hv, RdS.ex good_Table h259 e⟩), trivial⟩) ⟨?_, ?_, ?_, ?_, ?_, ?_, ?_, ?_, ?_, ?_, ?_, ?_, ?_, ?_, ?_, ?_, ?_, trivial⟩ ?_
       ·exact oI rfl fun h => yl_fieldAddr fd58_1 rfl (h.old 1 _ rfl rfl) kI
       ·exact oI rfl fun h => yl_load1 ty56 rfl (h.dt 0 47 rfl rfl rfl) (((Box.ex q235 h.ex).cell 1).trans rfl) kI
       ·intro L272 w273 hi274
        have hE275 := hi274.ex
        have hE275z := Ex.size hE275
        exact os rfl ((yl_ixN un56 ty34 rfl (hi274.dt 1 48 rfl rfl rfl) rfl eA26 kI))
       ·intro L277 w278 hi279
        have hE280 := hi279.ex
        have hE280z := Ex.size hE280
        exact os rfl ((yl_loadN ty34 rfl (hi279.dt 2 49 rfl rfl rfl) (Cells.ex (Cells.ex (Cells.ex (Cells.only (Cells.ex (Cells.ex eC26 hE188) hE205) hO208 (by omega)) hE215) hE225) hE280) rfl kI))
       ·exact oI rfl fun h => yl_fieldAddr fd58_0 rfl (h.old 1 _ rfl rfl) kI
       ·exact oI rfl fun h => yl_load1 ty9 rfl (h.dt 4 51 rfl rfl rfl) (((Box.ex q235 h.ex).cell 0).trans rfl) kI
       ·exact oI rfl fun h => yl_fieldAddr fd34_2 rfl (h.old 3 _ rfl rfl) kI
       ·exact oI rfl fun h => yl_load1 ty32 rfl (h.dt 6 53 rfl rfl rfl) (((Box.ex q241 h.ex).cell 2).trans rfl) kI
       ·exact oI rfl fun h => yl_loadN ty34 rfl (h.old 3 _ rfl rfl) ((Box.ex q241 h.ex).cells (n := 3) rfl) rfl kI
       ·exact oI rfl fun h => yl_fieldAddr fd58_0 rfl (h.old 1 _ rfl rfl) kI
       ·exact oI rfl fun h => yl_load1 ty9 rfl (h.dt 9 56 rfl rfl rfl) (((Box.ex q235 h.ex).cell 0).trans rfl) kI
       ·intro L322 w323 hi324
        have hE325 := hi324.ex
        exact OpR.op' rfl (yl_call en81 rfl (oc (hi324.dt 8 55 rfl rfl rfl) (oc (hi324.dt 10 57 rfl rfl rfl) oz)) (Cal.mono (c_s_l24Idx (p_0.Ways.getD ((IntKind.wrap .i64 ((p_0.Ways.length : Int) - 1)).toNat) d_Table) p_0.Name (RdS.up (RdS.ex good_Str (RdS.ex good_Str q221 hE225) hE325) good_Str) (RdS.up (RdS.ex good_Idx q243 hE325) good_Idx) (okL.getD o4.2.1 ok_d_Table _) o4.1) fun _ _ h => h))
       ·intro L333 w334 hi335
        have hE336 := hi335.ex
        have hE336z := Ex.size hE336
        exact os rfl ((yl_indexAddr un32 ty104 rfl (hi335.dt 7 54 rfl rfl rfl) (hi335.dt 11 58 rfl rfl rfl) eA245 (by first | omega | assumption | (simp only [wI] at *; omega)) (by first | omega | assumption | (simp only [wI] at *; omega)) kI))
       ·exact oI rfl fun h => yl_fieldAddr fd104_2 rfl (h.dt 12 59 rfl rfl rfl) kI
       ·exact oI rfl fun h => yl_load1 ty3 rfl (h.dt 13 60 rfl rfl rfl) ((Cells.ex eC245 h.ex) 2 _ rfl) kI
       ·intro L350 w351 hi352
        have hE353 := hi352.ex
        have hE353z := Ex.size hE353
        refine OpR.op' rfl (yl_call en133 rfl (oc (hi352.dt 3 50 rfl rfl rfl) (oc (hi352.dt 5 52 rfl rfl rfl) (oc (hi352.dt 14 61 rfl rfl rfl) oz))) (Cal.mono (c_s_l24Way (p_0.Ways.getD 0 d_Table) p_0.Name ((((p_0.Ways.getD ((IntKind.wrap .i64 ((p_0.Ways.length : Int) - 1)).toNat) d_Table).Idxs).getD (((s_l24Idx (p_0.Ways.getD ((IntKind.wrap .i64 ((p_0.Ways.length : Int) - 1)).toNat) d_Table) p_0.Name)).toNat) d_Idx).Stage) (RdS.up (RdS.ex good_Str (RdS.ex good_Str (RdS.ex good_Str (RdS.only good_Str (RdS.ex good_Str (RdS.ex good_Str h27 hE188) hE205) hO208 (by simp only [Iv]; omega)) hE215) hE225) hE353) good_Str) (RdS.up (RdS.ex good_Idx (RdS.ex good_Idx (RdS.ex good_Idx (RdS.only good_Idx (RdS.ex good_Idx (RdS.ex good_Idx h28 hE188) hE205) hO208 (by simp only [Iv]; omega)) hE215) hE225) hE353) good_Idx) (okL.getD o4.2.1 ok_d_Table _) o4.1 (by first | omega | assumption | (simp only [wI] at *; omega)) (stage_rng hb23 (by omega)) (stage_rng hb216 (by omega))) ?_))
        rintro v362 w359 ⟨A360, c360, lo360, hi360, rfl, h360, ho361, hrn364, hE363⟩
        exact ⟨⟨A360, c360, lo360, hi360, rfl, h360, ho361, hrn364⟩, hE363⟩
       ·intro L365 w366 hi367
        have hE368 := hi367.ex
        have hE368z := Ex.size hE368
        obtain ⟨lo370, hh371, _, hx369, hr372, hr373, hr374, A257_375, c257_376, lo257_377, hi257_378, rfl, h379, h380, hrn381⟩ := hi367.dep 15 62 rfl rfl
        exact os rfl ((yl_assign rfl hx369 ⟨fun _ _ => ⟨A257_375, c257_376, rfl, (RdS.ivG good_Table (OwnL.rd good_Table (OwnD.own goodO_Table good_Table h379)) (by omega))⟩, rfl⟩))
       ·intro fl385 fh386 L382 w383 hp384
        have hE387 := hp384.ex
        have hE387z := Ex.size hE387
        have hr390 := hp384.rng 15 rfl
        obtain ⟨_, hx389, A257_391, c257_392, lo257_393, hi257_394, rfl, h395, h396, hrn397⟩ := hp384.new 15 62 rfl rfl
        obtain ⟨_, hx398, A257_399, c257_400, rfl, h401⟩ := hp384.new 16 4 rfl rfl
        refine dn (CW.sub (Sub.cons (d := 1) (hp384.old 1 _ rfl rfl) (Sub.cons (d := 4) hx398 (Sub.nil _))) (CW.seq (CW.seq (CW.region (sd rfl (yl_move rfl rfl (sd rfl (yl_len un56 rfl rfl (sd rfl (yl_fieldAddr fd58_1 rfl rfl ?_))))))))))
        have q402 := Box.ex q235 hE387
        refine sd rfl (yl_load1 ty56 rfl rfl ((q402.cell 1).trans rfl) (sd rfl (yl_len un56 rfl rfl (sd rfl (yl_neq rfl rfl rfl (dn (bcase (decide (((s_l24Way (p_0.Ways.getD 0 d_Table) p_0.Name ((((p_0.Ways.getD ((IntKind.wrap .i64 ((p_0.Ways.length : Int) - 1)).toNat) d_Table).Idxs).getD (((s_l24Idx (p_0.Ways.getD ((IntKind.wrap .i64 ((p_0.Ways.length : Int) - 1)).toNat) d_Table) p_0.Name)).toNat) d_Idx).Stage)).length : Int) = (p_0.Ways.length : Int))) (fun hb403 => ?_) (fun hb403 => ?_))))))))
        ·have hb403p := dec_t hb403
         refine CW.cond_f rfl (not_t hb403) (CW.skip (tn (CW.seq (CW.seq (CW.region (sd rfl (yl_move rfl rfl (sd rfl (yl_len un56 rfl rfl (sd rfl (yl_move rfl rfl ?_)))))))))))
         refine dn (CW.block (CW.loop (fun m405 L406 w407 => ∃ (k404 : Nat), m405 = (s_l24Way (p_0.Ways.getD 0 d_Table) p_0.Name ((((p_0.Ways.getD ((IntKind.wrap .i64 ((p_0.Ways.length : Int) - 1)).toNat) d_Table).Idxs).getD (((s_l24Idx (p_0.Ways.getD ((IntKind.wrap .i64 ((p_0.Ways.length : Int) - 1)).toNat) d_Table) p_0.Name)).toNat) d_Idx).Stage)).length - k404 ∧ k404 ≤ (s_l24Way (p_0.Ways.getD 0 d_Table) p_0.Name ((((p_0.Ways.getD ((IntKind.wrap .i64 ((p_0.Ways.length : Int) - 1)).toNat) d_Table).Idxs).getD (((s_l24Idx (p_0.Ways.getD ((IntKind.wrap .i64 ((p_0.Ways.length : Int) - 1)).toNat) d_Table) p_0.Name)).toNat) d_Idx).Stage)).length ∧ w383.heap.size ≤ w407.heap.size ∧ lkp L406 1 = some (.pointer (some ⟨b9, 0, none⟩)) ∧ lkp L406 4 = some (.slice A257_399 ((s_l24Way (p_0.Ways.getD 0 d_Table) p_0.Name ((((p_0.Ways.getD ((IntKind.wrap .i64 ((p_0.Ways.length : Int) - 1)).toNat) d_Table).Idxs).getD (((s_l24Idx (p_0.Ways.getD ((IntKind.wrap .i64 ((p_0.Ways.length : Int) - 1)).toNat) d_Table) p_0.Name)).toNat) d_Idx).Stage)).length) c257_400) ∧ lkp L406 70 = some (.int .i64 (((s_l24Way (p_0.Ways.getD 0 d_Table) p_0.Name ((((p_0.Ways.getD ((IntKind.wrap .i64 ((p_0.Ways.length : Int) - 1)).toNat) d_Table).Idxs).getD (((s_l24Idx (p_0.Ways.getD ((IntKind.wrap .i64 ((p_0.Ways.length : Int) - 1)).toNat) d_Table) p_0.Name)).toNat) d_Idx).Stage)).length : Int))) ∧ lkp L406 71 = some (.int .i64 ((k404 : Int))) ∧ Box w407 b9 58 [.string (bs (p_0.Name)), .slice A1 p_0.Ways.length c1, .slice A2 p_0.At.length c2, .slice A3 p_0.Store.length c3] ∧ RdS w407 (Iv 0 w.heap.size) R_Table 3 A1 p_0.Ways.length c1 p_0.Ways ∧ RdS w407 (Iv 0 w.heap.size) (RF e_Int) 1 A2 p_0.At.length c2 p_0.At ∧ RdS w407 (Iv 0 w.heap.size) (RF e_Write) 3 A3 p_0.Store.length c3 p_0.Store ∧ RdS w407 (Ge w223.heap.size) R_Table 3 A257_399 (s_l24Way (p_0.Ways.getD 0 d_Table) p_0.Name ((((p_0.Ways.getD ((IntKind.wrap .i64 ((p_0.Ways.length : Int) - 1)).toNat) d_Table).Idxs).getD (((s_l24Idx (p_0.Ways.getD ((IntKind.wrap .i64 ((p_0.Ways.length : Int) - 1)).toNat) d_Table) p_0.Name)).toNat) d_Idx).Stage)).length c257_400 (s_l24Way (p_0.Ways.getD 0 d_Table) p_0.Name ((((p_0.Ways.getD ((IntKind.wrap .i64 ((p_0.Ways.length : Int) - 1)).toNat) d_Table).Idxs).getD (((s_l24Idx (p_0.Ways.getD ((IntKind.wrap .i64 ((p_0.Ways.length : Int) - 1)).toNat) d_Table) p_0.Name)).toNat) d_Idx).Stage)) ∧ Ex w w407 ∧ loopM (B_s_l27Ways_0 p_0) ((s_l24Way (p_0.Ways.getD 0 d_Table) p_0.Name ((((p_0.Ways.getD ((IntKind.wrap .i64 ((p_0.Ways.length : Int) - 1)).toNat) d_Table).Idxs).getD (((s_l24Idx (p_0.Ways.getD ((IntKind.wrap .i64 ((p_0.Ways.length : Int) - 1)).toNat) d_Table) p_0.Name)).toNat) d_Idx).Stage)).length - k404) k404 () = loopM (B_s_l27Ways_0 p_0) ((s_l24Way (p_0.Ways.getD 0 d_Table) p_0.Name ((((p_0.Ways.getD ((IntKind.wrap .i64 ((p_0.Ways.length : Int) - 1)).toNat) d_Table).Idxs).getD (((s_l24Idx (p_0.Ways.getD ((IntKind.wrap .i64 ((p_0.Ways.length : Int) - 1)).toNat) d_Table) p_0.Name)).toNat) d_Idx).Stage)).length - 0) 0 ()) ((s_l24Way (p_0.Ways.getD 0 d_Table) p_0.Name ((((p_0.Ways.getD ((IntKind.wrap .i64 ((p_0.Ways.length : Int) - 1)).toNat) d_Table).Idxs).getD (((s_l24Idx (p_0.Ways.getD ((IntKind.wrap .i64 ((p_0.Ways.length : Int) - 1)).toNat) d_Table) p_0.Name)).toNat) d_Idx).Stage)).length - 0) ?_ ?_))
         ·exact ⟨0, rfl, (by omega), Nat.le_refl _, rfl, rfl, rfl, rfl, q402, (RdS.ex good_Table (RdS.ex good_Table (RdS.ex good_Table (RdS.only good_Table (RdS.ex good_Table q196 hE205) hO208 (by simp only [Iv]; omega)) hE215) hE225) hE387), (RdS.ex good_Int (RdS.ex good_Int (RdS.ex good_Int (RdS.only good_Int (RdS.ex good_Int (RdS.ex good_Int (RdS.ex good_Int h2 hE14) hE188) hE205) hO208 (by simp only [Iv]; omega)) hE215) hE225) hE387), (RdS.ex good_Write (RdS.ex good_Write (RdS.ex good_Write (RdS.only good_Write (RdS.ex good_Write (RdS.ex good_Write (RdS.ex good_Write h3 hE14) hE188) hE205) hO208 (by simp only [Iv]; omega)) hE215) hE225) hE387), h401, (Ex.trans (Ex.trans (Ex.trans (Below.only (Ex.trans (Ex.trans (Ex.trans (Ex.refl w) hE14) hE188) hE205) hO208 (by omega)) hE215) hE225) hE387), rfl⟩
         ·rintro m434 L435 w436 ⟨k404, rfl, hk437, hsz439, hl440, hl441, hl442, hl443, hf444, hf445, hf446, hf447, hf448, hf449, hI438⟩
          refine CW.sub (Sub.cons hl440 (Sub.cons hl441 (Sub.cons hl442 (Sub.cons hl443 (Sub.nil _))))) ?_
          have hf444z := Box.lt hf444
          have hf449z := Ex.size hf449
          have hbg450 := RdS.big hf448
          rcases Nat.lt_or_ge k404 ((s_l24Way (p_0.Ways.getD 0 d_Table) p_0.Name ((((p_0.Ways.getD ((IntKind.wrap .i64 ((p_0.Ways.length : Int) - 1)).toNat) d_Table).Idxs).getD (((s_l24Idx (p_0.Ways.getD ((IntKind.wrap .i64 ((p_0.Ways.length : Int) - 1)).toNat) d_Table) p_0.Name)).toNat) d_Idx).Stage)).length) with hlt451 | hlt451
          ·refine CW.seq (CW.region (sd rfl (yl_lss rfl rfl rfl (dn (CW.seq (CW.cond_t rfl (lt_t hlt451) (CW.skip (tn ?_))))))))
           refine CW.seq (CW.block (CW.seq (CW.region (sd rfl (yl_move rfl rfl (sd rfl (yl_assign rfl rfl (dn (CW.seq ?_)))))))))
           obtain ⟨_, _, _, _, _, ebl452, _, eR452, _⟩ := RdS.aD hf445 d_Table (i := k404)
           obtain ⟨A453, c453, A454, c454, rfl, h453, h454⟩ := eR452
           refine bcase (s_GoodTable (p_0.Ways.getD k404 d_Table)) (fun hb456 => ?_) (fun hb456 => ?_)
           ·have hb456p := f_s_GoodTable hb456
            obtain ⟨_, _, _, _, _, ebl457, _, eR457, _⟩ := RdS.aD hf445 d_Table (i := k404)
            obtain ⟨A458, c458, A459, c459, rfl, h458, h459⟩ := eR457
            obtain ⟨_, _, _, _, _, ebl461, _, eR461, _⟩ := RdS.aD hf448 d_Table (i := k404)
            obtain ⟨A462, c462, A463, c463, rfl, h462, h463⟩ := eR461
            refine bcase (s_l24SameCols ((s_l24Way (p_0.Ways.getD 0 d_Table) p_0.Name ((((p_0.Ways.getD ((IntKind.wrap .i64 ((p_0.Ways.length : Int) - 1)).toNat) d_Table).Idxs).getD (((s_l24Idx (p_0.Ways.getD ((IntKind.wrap .i64 ((p_0.Ways.length : Int) - 1)).toNat) d_Table) p_0.Name)).toNat) d_Idx).Stage)).getD k404 d_Table) (p_0.Ways.getD k404 d_Table)) (fun hb465 => ?_) (fun hb465 => ?_)
            ·have hb465p := f_s_l24SameCols hb465
             obtain ⟨eb466, eo466, _, eA466, _, ebl466, _, eR466, eC466⟩ := RdS.aD hf445 d_Table (i := k404)
             obtain ⟨A467, c467, A468, c468, rfl, h467, h468⟩ := eR466
             obtain ⟨eb470, eo470, _, eA470, _, ebl470, _, eR470, eC470⟩ := RdS.aD hf448 d_Table (i := k404)
             obtain ⟨A471, c471, A472, c472, rfl, h471, h472⟩ := eR470
             refine CW.drawsI 33 (vgetI ([.pointer (some ⟨b9, 0 + 1, none⟩), .slice A1 p_0.Ways.length c1, .int .i64 ((k404 : Int)), .pointer (some ⟨eb466, eo466 + k404 * 3, none⟩), .agg #[.string (bs ((p_0.Ways.getD k404 d_Table).Name)), .slice A467 (((p_0.Ways.getD k404 d_Table).Cols).length) c467, .slice A468 (((p_0.Ways.getD k404 d_Table).Idxs).length) c468], .bool ((s_GoodTable (p_0.Ways.getD k404 d_Table))), .bool (!(s_GoodTable (p_0.Ways.getD k404 d_Table))), .bool (!(s_GoodTable (p_0.Ways.getD k404 d_Table))), .slice A257_399 ((s_l24Way (p_0.Ways.getD 0 d_Table) p_0.Name ((((p_0.Ways.getD ((IntKind.wrap .i64 ((p_0.Ways.length : Int) - 1)).toNat) d_Table).Idxs).getD (((s_l24Idx (p_0.Ways.getD ((IntKind.wrap .i64 ((p_0.Ways.length : Int) - 1)).toNat) d_Table) p_0.Name)).toNat) d_Idx).Stage)).length) c257_400, .int .i64 ((k404 : Int)), .pointer (some ⟨eb470, eo470 + k404 * 3, none⟩), .agg #[.string (bs (((s_l24Way (p_0.Ways.getD 0 d_Table) p_0.Name ((((p_0.Ways.getD ((IntKind.wrap .i64 ((p_0.Ways.length : Int) - 1)).toNat) d_Table).Idxs).getD (((s_l24Idx (p_0.Ways.getD ((IntKind.wrap .i64 ((p_0.Ways.length : Int) - 1)).toNat) d_Table) p_0.Name)).toNat) d_Idx).Stage)).getD k404 d_Table).Name)), .slice A471 ((((s_l24Way (p_0.Ways.getD 0 d_Table) p_0.Name ((((p_0.Ways.getD ((IntKind.wrap .i64 ((p_0.Ways.length : Int) - 1)).toNat) d_Table).Idxs).getD (((s_l24Idx (p_0.Ways.getD ((IntKind.wrap .i64 ((p_0.Ways.length : Int) - 1)).toNat) d_Table) p_0.Name)).toNat) d_Idx).Stage)).getD k404 d_Table).Cols).length) c471, .slice A472 ((((s_l24Way (p_0.Ways.getD 0 d_Table) p_0.Name ((((p_0.Ways.getD ((IntKind.wrap .i64 ((p_0.Ways.length : Int) - 1)).toNat) d_Table).Idxs).getD (((s_l24Idx (p_0.Ways.getD ((IntKind.wrap .i64 ((p_0.Ways.length : Int) - 1)).toNat) d_Table) p_0.Name)).toNat) d_Idx).Stage)).getD k404 d_Table).Idxs).length) c472], .pointer (some ⟨b9, 0 + 1, none⟩), .slice A1 p_0.Ways.length c1, .int .i64 ((k404 : Int)), .pointer (some ⟨eb466, eo466 + k404 * 3, none⟩), .agg #[.string (bs ((p_0.Ways.getD k404 d_Table).Name)), .slice A467 (((p_0.Ways.getD k404 d_Table).Cols).length) c467, .slice A468 (((p_0.Ways.getD k404 d_Table).Idxs).length) c468], .bool ((s_l24SameCols ((s_l24Way (p_0.Ways.getD 0 d_Table) p_0.Name ((((p_0.Ways.getD ((IntKind.wrap .i64 ((p_0.Ways.length : Int) - 1)).toNat) d_Table).Idxs).getD (((s_l24Idx (p_0.Ways.getD ((IntKind.wrap .i64 ((p_0.Ways.length : Int) - 1)).toNat) d_Table) p_0.Name)).toNat) d_Idx).Stage)).getD k404 d_Table) (p_0.Ways.getD k404 d_Table))), .bool (!(s_l24SameCols ((s_l24Way (p_0.Ways.getD 0 d_Table) p_0.Name ((((p_0.Ways.getD ((IntKind.wrap .i64 ((p_0.Ways.length : Int) - 1)).toNat) d_Table).Idxs).getD (((s_l24Idx (p_0.Ways.getD ((IntKind.wrap .i64 ((p_0.Ways.length : Int) - 1)).toNat) d_Table) p_0.Name)).toNat) d_Idx).Stage)).getD k404 d_Table) (p_0.Ways.getD k404 d_Table))), .bool (!(s_l24SameCols ((s_l24Way (p_0.Ways.getD 0 d_Table) p_0.Name ((((p_0.Ways.getD ((IntKind.wrap .i64 ((p_0.Ways.length : Int) - 1)).toNat) d_Table).Idxs).getD (((s_l24Idx (p_0.Ways.getD ((IntKind.wrap .i64 ((p_0.Ways.length : Int) - 1)).toNat) d_Table) p_0.Name)).toNat) d_Idx).Stage)).getD k404 d_Table) (p_0.Ways.getD k404 d_Table))), .bool (!(s_l24SameCols ((s_l24Way (p_0.Ways.getD 0 d_Table) p_0.Name ((((p_0.Ways.getD ((IntKind.wrap .i64 ((p_0.Ways.length : Int) - 1)).toNat) d_Table).Idxs).getD (((s_l24Idx (p_0.Ways.getD ((IntKind.wrap .i64 ((p_0.Ways.length : Int) - 1)).toNat) d_Table) p_0.Name)).toNat) d_Idx).Stage)).getD k404 d_Table) (p_0.Ways.getD k404 d_Table))), .slice A257_399 ((s_l24Way (p_0.Ways.getD 0 d_Table) p_0.Name ((((p_0.Ways.getD ((IntKind.wrap .i64 ((p_0.Ways.length : Int) - 1)).toNat) d_Table).Idxs).getD (((s_l24Idx (p_0.Ways.getD ((IntKind.wrap .i64 ((p_0.Ways.length : Int) - 1)).toNat) d_Table) p_0.Name)).toNat) d_Idx).Stage)).length) c257_400, .int .i64 ((k404 : Int)), .pointer (some ⟨eb470, eo470 + k404 * 3, none⟩), .agg #[.string (bs (((s_l24Way (p_0.Ways.getD 0 d_Table) p_0.Name ((((p_0.Ways.getD ((IntKind.wrap .i64 ((p_0.Ways.length : Int) - 1)).toNat) d_Table).Idxs).getD (((s_l24Idx (p_0.Ways.getD ((IntKind.wrap .i64 ((p_0.Ways.length : Int) - 1)).toNat) d_Table) p_0.Name)).toNat) d_Idx).Stage)).getD k404 d_Table).Name)), .slice A471 ((((s_l24Way (p_0.Ways.getD 0 d_Table) p_0.Name ((((p_0.Ways.getD ((IntKind.wrap .i64 ((p_0.Ways.length : Int) - 1)).toNat) d_Table).Idxs).getD (((s_l24Idx (p_0.Ways.getD ((IntKind.wrap .i64 ((p_0.Ways.length : Int) - 1)).toNat) d_Table) p_0.Name)).toNat) d_Idx).Stage)).getD k404 d_Table).Cols).length) c471, .slice A472 ((((s_l24Way (p_0.Ways.getD 0 d_Table) p_0.Name ((((p_0.Ways.getD ((IntKind.wrap .i64 ((p_0.Ways.length : Int) - 1)).toNat) d_Table).Idxs).getD (((s_l24Idx (p_0.Ways.getD ((IntKind.wrap .i64 ((p_0.Ways.length : Int) - 1)).toNat) d_Table) p_0.Name)).toNat) d_Idx).Stage)).getD k404 d_Table).Idxs).length) c472], .pointer (some ⟨b9, 0 + 1, none⟩), .slice A1 p_0.Ways.length c1, .int .i64 ((k404 : Int)), .pointer (some ⟨eb466, eo466 + k404 * 3, none⟩), .agg #[.string (bs ((p_0.Ways.getD k404 d_Table).Name)), .slice A467 (((p_0.Ways.getD k404 d_Table).Cols).length) c467, .slice A468 (((p_0.Ways.getD k404 d_Table).Idxs).length) c468], .int .i64 ((s_l24Far ((s_l24Way (p_0.Ways.getD 0 d_Table) p_0.Name ((((p_0.Ways.getD ((IntKind.wrap .i64 ((p_0.Ways.length : Int) - 1)).toNat) d_Table).Idxs).getD (((s_l24Idx (p_0.Ways.getD ((IntKind.wrap .i64 ((p_0.Ways.length : Int) - 1)).toNat) d_Table) p_0.Name)).toNat) d_Idx).Stage)).getD k404 d_Table) (p_0.Ways.getD k404 d_Table))), .bool (!(decide ((s_l24Far ((s_l24Way (p_0.Ways.getD 0 d_Table) p_0.Name ((((p_0.Ways.getD ((IntKind.wrap .i64 ((p_0.Ways.length : Int) - 1)).toNat) d_Table).Idxs).getD (((s_l24Idx (p_0.Ways.getD ((IntKind.wrap .i64 ((p_0.Ways.length : Int) - 1)).toNat) d_Table) p_0.Name)).toNat) d_Idx).Stage)).getD k404 d_Table) (p_0.Ways.getD k404 d_Table)) = 0))), .bool (!(decide ((s_l24Far ((s_l24Way (p_0.Ways.getD 0 d_Table) p_0.Name ((((p_0.Ways.getD ((IntKind.wrap .i64 ((p_0.Ways.length : Int) - 1)).toNat) d_Table).Idxs).getD (((s_l24Idx (p_0.Ways.getD ((IntKind.wrap .i64 ((p_0.Ways.length : Int) - 1)).toNat) d_Table) p_0.Name)).toNat) d_Idx).Stage)).getD k404 d_Table) (p_0.Ways.getD k404 d_Table)) = 0)))].map DetI)) Tryz.follows rfl rfl rfl rfl rfl rfl (vgetI_stable (stD _)) ⟨?_, ?_, ?_, ?_, ?_, ?_, ?_, ?_, ?_, ?_, ?_, ?_, ?_, ?_, ?_, ?_, ?_, ?_, ?_, ?_, ?_, ?_, ?_, ?_, ?_, ?_, ?_, ?_, ?_, ?_, ?_, ?_, ?_, trivial⟩ ?_
             ·exact oI rfl fun h => yl_fieldAddr fd58_1 rfl (h.old 1 _ rfl rfl) kI
             ·exact oI rfl fun h => yl_load1 ty56 rfl (h.dt 0 74 rfl rfl rfl) (((Box.ex hf444 h.ex).cell 1).trans rfl) kI
             ·exact oI rfl fun h => yl_move rfl (h.old 5 _ rfl rfl) kI
             ·intro L491 w492 hi493
              have hE494 := hi493.ex
              have hE494z := Ex.size hE494
              exact os rfl ((yl_ixN un56 ty34 rfl (hi493.dt 1 75 rfl rfl rfl) (hi493.dt 2 76 rfl rfl rfl) eA466 kI))
             ·exact oI rfl fun h => yl_loadN ty34 rfl (h.dt 3 77 rfl rfl rfl) (Cells.ex eC466 h.ex) rfl kI
             ·intro L503 w504 hi505
              have hE506 := hi505.ex
              exact OpR.op' rfl (yl_call en26 rfl (oc (hi505.dt 4 78 rfl rfl rfl) oz) (Cal.mono (c_s_GoodTable (p_0.Ways.getD k404 d_Table) (RdS.up (RdS.ex good_Str h467 hE506) good_Str) (RdS.up (RdS.ex good_Idx h468 hE506) good_Idx) (okL.getD o4.2.1 ok_d_Table _)) fun _ _ h => h))
             ·exact oI rfl fun h => yl_not rfl (h.dt 5 79 rfl rfl rfl) kI
             ·exact oI rfl fun h => yl_move rfl (h.dt 6 80 rfl rfl rfl) kI
             ·exact oW rfl rfl rfl rfl (not_t hb456) fun h => yl_move rfl (h.old 4 _ rfl rfl) kI
             ·exact oW rfl rfl rfl rfl (not_t hb456) fun h => yl_move rfl (h.old 5 _ rfl rfl) kI
             ·intro L535 w536 hi537
              have hE538 := hi537.ex
              have hE538z := Ex.size hE538
              exact OpR.want rfl rfl (hi537.dt 7 81 rfl rfl rfl) (not_t hb456) (Yl.sameI (yl_ixN un56 ty34 rfl (hi537.dt 8 82 rfl rfl rfl) (hi537.dt 9 83 rfl rfl rfl) eA470 kI))
             ·exact oW rfl rfl rfl rfl (not_t hb456) fun h => yl_loadN ty34 rfl (h.dt 10 84 rfl rfl rfl) (Cells.ex eC470 h.ex) rfl kI
             ·exact oW rfl rfl rfl rfl (not_t hb456) fun h => yl_fieldAddr fd58_1 rfl (h.old 1 _ rfl rfl) kI
             ·exact oW rfl rfl rfl rfl (not_t hb456) fun h => yl_load1 ty56 rfl (h.dt 12 86 rfl rfl rfl) (((Box.ex hf444 h.ex).cell 1).trans rfl) kI
             ·exact oW rfl rfl rfl rfl (not_t hb456) fun h => yl_move rfl (h.old 5 _ rfl rfl) kI
             ·intro L568 w569 hi570
              have hE571 := hi570.ex
              have hE571z := Ex.size hE571
              exact OpR.want rfl rfl (hi570.dt 7 81 rfl rfl rfl) (not_t hb456) (Yl.sameI (yl_ixN un56 ty34 rfl (hi570.dt 13 87 rfl rfl rfl) (hi570.dt 14 88 rfl rfl rfl) eA466 kI))
             ·exact oW rfl rfl rfl rfl (not_t hb456) fun h => yl_loadN ty34 rfl (h.dt 15 89 rfl rfl rfl) (Cells.ex eC466 h.ex) rfl kI
             ·intro L582 w583 hi584
              have hE585 := hi584.ex
              exact OpR.want rfl rfl (hi584.dt 7 81 rfl rfl rfl) (not_t hb456) (yl_call en134 rfl (oc (hi584.dt 11 85 rfl rfl rfl) (oc (hi584.dt 16 90 rfl rfl rfl) oz)) (Cal.mono (c_s_l24SameCols ((s_l24Way (p_0.Ways.getD 0 d_Table) p_0.Name ((((p_0.Ways.getD ((IntKind.wrap .i64 ((p_0.Ways.length : Int) - 1)).toNat) d_Table).Idxs).getD (((s_l24Idx (p_0.Ways.getD ((IntKind.wrap .i64 ((p_0.Ways.length : Int) - 1)).toNat) d_Table) p_0.Name)).toNat) d_Idx).Stage)).getD k404 d_Table) (p_0.Ways.getD k404 d_Table) (RdS.up (RdS.ex good_Str h471 hE585) good_Str) (RdS.up (RdS.ex good_Idx h472 hE585) good_Idx) (RdS.up (RdS.ex good_Str h467 hE585) good_Str) (RdS.up (RdS.ex good_Idx h468 hE585) good_Idx) (okL.getD h396 ok_d_Table _) (okL.getD o4.2.1 ok_d_Table _)) fun _ _ h => h))
             ·exact oW rfl rfl rfl rfl (not_t hb456) fun h => yl_not rfl (h.dt 17 91 rfl rfl rfl) kI
             ·exact oI rfl fun h => yl_pick_f rfl (h.dt 7 81 rfl rfl rfl) (not_t hb456) (h.dt 18 92 rfl rfl rfl) kI
             ·exact oI rfl fun h => yl_move rfl (h.dt 19 93 rfl rfl rfl) kI
             ·exact oW rfl rfl rfl rfl (not_t hb465) fun h => yl_move rfl (h.old 4 _ rfl rfl) kI
             ·exact oW rfl rfl rfl rfl (not_t hb465) fun h => yl_move rfl (h.old 5 _ rfl rfl) kI
             ·intro L625 w626 hi627
              have hE628 := hi627.ex
              have hE628z := Ex.size hE628
              exact OpR.want rfl rfl (hi627.dt 20 94 rfl rfl rfl) (not_t hb465) (Yl.sameI (yl_ixN un56 ty34 rfl (hi627.dt 21 95 rfl rfl rfl) (hi627.dt 22 96 rfl rfl rfl) eA470 kI))
             ·exact oW rfl rfl rfl rfl (not_t hb465) fun h => yl_loadN ty34 rfl (h.dt 23 97 rfl rfl rfl) (Cells.ex eC470 h.ex) rfl kI
             ·exact oW rfl rfl rfl rfl (not_t hb465) fun h => yl_fieldAddr fd58_1 rfl (h.old 1 _ rfl rfl) kI
             ·exact oW rfl rfl rfl rfl (not_t hb465) fun h => yl_load1 ty56 rfl (h.dt 25 99 rfl rfl rfl) (((Box.ex hf444 h.ex).cell 1).trans rfl) kI
             ·exact oW rfl rfl rfl rfl (not_t hb465) fun h => yl_move rfl (h.old 5 _ rfl rfl) kI
             ·intro L658 w659 hi660
              have hE661 := hi660.ex
              have hE661z := Ex.size hE661
              exact OpR.want rfl rfl (hi660.dt 20 94 rfl rfl rfl) (not_t hb465) (Yl.sameI (yl_ixN un56 ty34 rfl (hi660.dt 26 100 rfl rfl rfl) (hi660.dt 27 101 rfl rfl rfl) eA466 kI))
             ·exact oW rfl rfl rfl rfl (not_t hb465) fun h => yl_loadN ty34 rfl (h.dt 28 102 rfl rfl rfl) (Cells.ex eC466 h.ex) rfl kI
             ·intro L672 w673 hi674
              have hE675 := hi674.ex
              have hE675z := Ex.size hE675
              exact OpR.want rfl rfl (hi674.dt 20 94 rfl rfl rfl) (not_t hb465) (yl_call en135 rfl (oc (hi674.dt 24 98 rfl rfl rfl) (oc (hi674.dt 29 103 rfl rfl rfl) oz)) (Cal.mono (c_s_l24Far ((s_l24Way (p_0.Ways.getD 0 d_Table) p_0.Name ((((p_0.Ways.getD ((IntKind.wrap .i64 ((p_0.Ways.length : Int) - 1)).toNat) d_Table).Idxs).getD (((s_l24Idx (p_0.Ways.getD ((IntKind.wrap .i64 ((p_0.Ways.length : Int) - 1)).toNat) d_Table) p_0.Name)).toNat) d_Idx).Stage)).getD k404 d_Table) (p_0.Ways.getD k404 d_Table) (RdS.up (RdS.ex good_Str h471 hE675) good_Str) (RdS.up (RdS.ex good_Idx h472 hE675) good_Idx) (RdS.up (RdS.ex good_Str h467 hE675) good_Str) (RdS.up (RdS.ex good_Idx h468 hE675) good_Idx) (okL.getD h396 ok_d_Table _) (okL.getD o4.2.1 ok_d_Table _) (by first | omega | assumption | (simp only [wI] at *; omega))) fun _ _ h => h))
             ·exact oW rfl rfl rfl rfl (not_t hb465) fun h => yl_neq rfl (h.dt 30 104 rfl rfl rfl) rfl kI
             ·exact oI rfl fun h => yl_pick_f rfl (h.dt 20 94 rfl rfl rfl) (not_t hb465) (h.dt 31 105 rfl rfl rfl) kI
             ·intro fl701 fh702 L698 w699 hp700
              have hE703 := hp700.ex
              have hE703z := Ex.size hE703
              refine dn (CW.sub (Sub.cons (d := 1) (hp700.old 1 _ rfl rfl) (Sub.cons (d := 4) (hp700.old 4 _ rfl rfl) (Sub.cons (d := 70) (hp700.old 70 _ rfl rfl) (Sub.cons (d := 71) (hp700.old 71 _ rfl rfl) (Sub.cons (d := 82) (hp700.nt 8 82 rfl rfl rfl) (Sub.cons (d := 83) (hp700.nt 9 83 rfl rfl rfl) (Sub.cons (d := 84) (hp700.nt 10 84 rfl rfl rfl) (Sub.cons (d := 85) (hp700.nt 11 85 rfl rfl rfl) (Sub.cons (d := 86) (hp700.nt 12 86 rfl rfl rfl) (Sub.cons (d := 87) (hp700.nt 13 87 rfl rfl rfl) (Sub.cons (d := 88) (hp700.nt 14 88 rfl rfl rfl) (Sub.cons (d := 89) (hp700.nt 15 89 rfl rfl rfl) (Sub.cons (d := 90) (hp700.nt 16 90 rfl rfl rfl) (Sub.cons (d := 91) (hp700.nt 17 91 rfl rfl rfl) (Sub.cons (d := 92) (hp700.nt 18 92 rfl rfl rfl) (Sub.cons (d := 95) (hp700.nt 21 95 rfl rfl rfl) (Sub.cons (d := 96) (hp700.nt 22 96 rfl rfl rfl) (Sub.cons (d := 97) (hp700.nt 23 97 rfl rfl rfl) (Sub.cons (d := 98) (hp700.nt 24 98 rfl rfl rfl) (Sub.cons (d := 99) (hp700.nt 25 99 rfl rfl rfl) (Sub.cons (d := 100) (hp700.nt 26 100 rfl rfl rfl) (Sub.cons (d := 101) (hp700.nt 27 101 rfl rfl rfl) (Sub.cons (d := 102) (hp700.nt 28 102 rfl rfl rfl) (Sub.cons (d := 103) (hp700.nt 29 103 rfl rfl rfl) (Sub.cons (d := 104) (hp700.nt 30 104 rfl rfl rfl) (Sub.cons (d := 105) (hp700.nt 31 105 rfl rfl rfl) (Sub.cons (d := 106) (hp700.nt 32 106 rfl rfl rfl) (Sub.nil _)))))))))))))))))))))))))))) (bcase (decide ((s_l24Far ((s_l24Way (p_0.Ways.getD 0 d_Table) p_0.Name ((((p_0.Ways.getD ((IntKind.wrap .i64 ((p_0.Ways.length : Int) - 1)).toNat) d_Table).Idxs).getD (((s_l24Idx (p_0.Ways.getD ((IntKind.wrap .i64 ((p_0.Ways.length : Int) - 1)).toNat) d_Table) p_0.Name)).toNat) d_Idx).Stage)).getD k404 d_Table) (p_0.Ways.getD k404 d_Table)) = 0)) (fun hb731 => ?_) (fun hb731 => ?_)))
              ·have hb731p := dec_t hb731
               refine CW.cond_f rfl (not_t hb731) (CW.skip (bn (tn (CW.region (sd rfl (yl_inc rfl rfl rfl (by omega) (sd rfl (yl_move rfl rfl (dn ?_)))))))))
               have hB732 : B_s_l27Ways_0 p_0 k404 () = .cont () := by simp only [B_s_l27Ways_0, hb16, hb23, hb191, hb216, hb227, hb403, hb456, hb465, hb731, cL]
               exact ⟨(s_l24Way (p_0.Ways.getD 0 d_Table) p_0.Name ((((p_0.Ways.getD ((IntKind.wrap .i64 ((p_0.Ways.length : Int) - 1)).toNat) d_Table).Idxs).getD (((s_l24Idx (p_0.Ways.getD ((IntKind.wrap .i64 ((p_0.Ways.length : Int) - 1)).toNat) d_Table) p_0.Name)).toNat) d_Idx).Stage)).length - (k404 + 1), by omega, k404 + 1, rfl, hlt451, (by omega), rfl, rfl, rfl, rfl, (Box.ex hf444 hE703), (RdS.ex good_Table hf445 hE703), (RdS.ex good_Int hf446 hE703), (RdS.ex good_Write hf447 hE703), (RdS.ex good_Table hf448 hE703), (Ex.trans hf449 hE703), (loopM.cont hlt451 hB732).symm.trans hI438⟩
              ·have hb731p := dec_f hb731
               refine CW.cond_t rfl (not_f hb731) (CW.seq (CW.region (sd rfl (yl_assign rfl rfl (dn (CW.ret (br (tr ?_))))))))
               refine tr ?_
               have hB740 : B_s_l27Ways_0 p_0 k404 () = .ret false := by simp only [B_s_l27Ways_0, hb16, hb23, hb191, hb216, hb227, hb403, hb456, hb465, hb731, cL]
               have hL739 : loopM (B_s_l27Ways_0 p_0) ((s_l24Way (p_0.Ways.getD 0 d_Table) p_0.Name ((((p_0.Ways.getD ((IntKind.wrap .i64 ((p_0.Ways.length : Int) - 1)).toNat) d_Table).Idxs).getD (((s_l24Idx (p_0.Ways.getD ((IntKind.wrap .i64 ((p_0.Ways.length : Int) - 1)).toNat) d_Table) p_0.Name)).toNat) d_Idx).Stage)).length - 0) 0 () = .ret false := hI438.symm.trans (loopM.ret hlt451 hB740)
               refine br (tr (rr rfl (.cons rfl .nil) ?_))
               have hM741 : (s_l27Ways p_0) = (false) := by simp only [s_l27Ways, hb16, hb23, hb191, hb216, hb227, hb403, hb456, hb465, hb731, hL739, cL]
               rw [hM741]
               exact ⟨rfl, (Ex.trans hf449 hE703)⟩
            ·obtain ⟨eb743, eo743, _, eA743, _, ebl743, _, eR743, eC743⟩ := RdS.aD hf445 d_Table (i := k404)
             obtain ⟨A744, c744, A745, c745, rfl, h744, h745⟩ := eR743
             obtain ⟨eb747, eo747, _, eA747, _, ebl747, _, eR747, eC747⟩ := RdS.aD hf448 d_Table (i := k404)
             obtain ⟨A748, c748, A749, c749, rfl, h748, h749⟩ := eR747
             refine CW.drawsI 33 (vgetI ([.pointer (some ⟨b9, 0 + 1, none⟩), .slice A1 p_0.Ways.length c1, .int .i64 ((k404 : Int)), .pointer (some ⟨eb743, eo743 + k404 * 3, none⟩), .agg #[.string (bs ((p_0.Ways.getD k404 d_Table).Name)), .slice A744 (((p_0.Ways.getD k404 d_Table).Cols).length) c744, .slice A745 (((p_0.Ways.getD k404 d_Table).Idxs).length) c745], .bool ((s_GoodTable (p_0.Ways.getD k404 d_Table))), .bool (!(s_GoodTable (p_0.Ways.getD k404 d_Table))), .bool (!(s_GoodTable (p_0.Ways.getD k404 d_Table))), .slice A257_399 ((s_l24Way (p_0.Ways.getD 0 d_Table) p_0.Name ((((p_0.Ways.getD ((IntKind.wrap .i64 ((p_0.Ways.length : Int) - 1)).toNat) d_Table).Idxs).getD (((s_l24Idx (p_0.Ways.getD ((IntKind.wrap .i64 ((p_0.Ways.length : Int) - 1)).toNat) d_Table) p_0.Name)).toNat) d_Idx).Stage)).length) c257_400, .int .i64 ((k404 : Int)), .pointer (some ⟨eb747, eo747 + k404 * 3, none⟩), .agg #[.string (bs (((s_l24Way (p_0.Ways.getD 0 d_Table) p_0.Name ((((p_0.Ways.getD ((IntKind.wrap .i64 ((p_0.Ways.length : Int) - 1)).toNat) d_Table).Idxs).getD (((s_l24Idx (p_0.Ways.getD ((IntKind.wrap .i64 ((p_0.Ways.length : Int) - 1)).toNat) d_Table) p_0.Name)).toNat) d_Idx).Stage)).getD k404 d_Table).Name)), .slice A748 ((((s_l24Way (p_0.Ways.getD 0 d_Table) p_0.Name ((((p_0.Ways.getD ((IntKind.wrap .i64 ((p_0.Ways.length : Int) - 1)).toNat) d_Table).Idxs).getD (((s_l24Idx (p_0.Ways.getD ((IntKind.wrap .i64 ((p_0.Ways.length : Int) - 1)).toNat) d_Table) p_0.Name)).toNat) d_Idx).Stage)).getD k404 d_Table).Cols).length) c748, .slice A749 ((((s_l24Way (p_0.Ways.getD 0 d_Table) p_0.Name ((((p_0.Ways.getD ((IntKind.wrap .i64 ((p_0.Ways.length : Int) - 1)).toNat) d_Table).Idxs).getD (((s_l24Idx (p_0.Ways.getD ((IntKind.wrap .i64 ((p_0.Ways.length : Int) - 1)).toNat) d_Table) p_0.Name)).toNat) d_Idx).Stage)).getD k404 d_Table).Idxs).length) c749], .pointer (some ⟨b9, 0 + 1, none⟩), .slice A1 p_0.Ways.length c1, .int .i64 ((k404 : Int)), .pointer (some ⟨eb743, eo743 + k404 * 3, none⟩), .agg #[.string (bs ((p_0.Ways.getD k404 d_Table).Name)), .slice A744 (((p_0.Ways.getD k404 d_Table).Cols).length) c744, .slice A745 (((p_0.Ways.getD k404 d_Table).Idxs).length) c745], .bool ((s_l24SameCols ((s_l24Way (p_0.Ways.getD 0 d_Table) p_0.Name ((((p_0.Ways.getD ((IntKind.wrap .i64 ((p_0.Ways.length : Int) - 1)).toNat) d_Table).Idxs).getD (((s_l24Idx (p_0.Ways.getD ((IntKind.wrap .i64 ((p_0.Ways.length : Int) - 1)).toNat) d_Table) p_0.Name)).toNat) d_Idx).Stage)).getD k404 d_Table) (p_0.Ways.getD k404 d_Table))), .bool (!(s_l24SameCols ((s_l24Way (p_0.Ways.getD 0 d_Table) p_0.Name ((((p_0.Ways.getD ((IntKind.wrap .i64 ((p_0.Ways.length : Int) - 1)).toNat) d_Table).Idxs).getD (((s_l24Idx (p_0.Ways.getD ((IntKind.wrap .i64 ((p_0.Ways.length : Int) - 1)).toNat) d_Table) p_0.Name)).toNat) d_Idx).Stage)).getD k404 d_Table) (p_0.Ways.getD k404 d_Table))), .bool (!(s_l24SameCols ((s_l24Way (p_0.Ways.getD 0 d_Table) p_0.Name ((((p_0.Ways.getD ((IntKind.wrap .i64 ((p_0.Ways.length : Int) - 1)).toNat) d_Table).Idxs).getD (((s_l24Idx (p_0.Ways.getD ((IntKind.wrap .i64 ((p_0.Ways.length : Int) - 1)).toNat) d_Table) p_0.Name)).toNat) d_Idx).Stage)).getD k404 d_Table) (p_0.Ways.getD k404 d_Table))), .bool (!(s_l24SameCols ((s_l24Way (p_0.Ways.getD 0 d_Table) p_0.Name ((((p_0.Ways.getD ((IntKind.wrap .i64 ((p_0.Ways.length : Int) - 1)).toNat) d_Table).Idxs).getD (((s_l24Idx (p_0.Ways.getD ((IntKind.wrap .i64 ((p_0.Ways.length : Int) - 1)).toNat) d_Table) p_0.Name)).toNat) d_Idx).Stage)).getD k404 d_Table) (p_0.Ways.getD k404 d_Table))), undef, undef, undef, undef, undef, undef, undef, undef, undef, undef, undef, .bool (true)].map DetI)) Tryz.follows rfl rfl rfl rfl rfl rfl (vgetI_stable (stD _)) ⟨?_, ?_, ?_, ?_, ?_, ?_, ?_, ?_, ?_, ?_, ?_, ?_, ?_, ?_, ?_, ?_, ?_, ?_, ?_, ?_, ?_, ?_, ?_, ?_, ?_, ?_, ?_, ?_, ?_, ?_, ?_, ?_, ?_, trivial⟩ ?_
             ·exact oI rfl fun h => yl_fieldAddr fd58_1 rfl (h.old 1 _ rfl rfl) kI
             ·exact oI rfl fun h => yl_load1 ty56 rfl (h.dt 0 74 rfl rfl rfl) (((Box.ex hf444 h.ex).cell 1).trans rfl) kI
             ·exact oI rfl fun h => yl_move rfl (h.old 5 _ rfl rfl) kI
             ·intro L767 w768 hi769
              have hE770 := hi769.ex
              have hE770z := Ex.size hE770
              exact os rfl ((yl_ixN un56 ty34 rfl (hi769.dt 1 75 rfl rfl rfl) (hi769.dt 2 76 rfl rfl rfl) eA743 kI))
             ·exact oI rfl fun h => yl_loadN ty34 rfl (h.dt 3 77 rfl rfl rfl) (Cells.ex eC743 h.ex) rfl kI
             ·intro L779 w780 hi781
              have hE782 := hi781.ex
              exact OpR.op' rfl (yl_call en26 rfl (oc (hi781.dt 4 78 rfl rfl rfl) oz) (Cal.mono (c_s_GoodTable (p_0.Ways.getD k404 d_Table) (RdS.up (RdS.ex good_Str h744 hE782) good_Str) (RdS.up (RdS.ex good_Idx h745 hE782) good_Idx) (okL.getD o4.2.1 ok_d_Table _)) fun _ _ h => h))
             ·exact oI rfl fun h => yl_not rfl (h.dt 5 79 rfl rfl rfl) kI
             ·exact oI rfl fun h => yl_move rfl (h.dt 6 80 rfl rfl rfl) kI
             ·exact oW rfl rfl rfl rfl (not_t hb456) fun h => yl_move rfl (h.old 4 _ rfl rfl) kI
             ·exact oW rfl rfl rfl rfl (not_t hb456) fun h => yl_move rfl (h.old 5 _ rfl rfl) kI
             ·intro L811 w812 hi813
              have hE814 := hi813.ex
              have hE814z := Ex.size hE814
              exact OpR.want rfl rfl (hi813.dt 7 81 rfl rfl rfl) (not_t hb456) (Yl.sameI (yl_ixN un56 ty34 rfl (hi813.dt 8 82 rfl rfl rfl) (hi813.dt 9 83 rfl rfl rfl) eA747 kI))
             ·exact oW rfl rfl rfl rfl (not_t hb456) fun h => yl_loadN ty34 rfl (h.dt 10 84 rfl rfl rfl) (Cells.ex eC747 h.ex) rfl kI
             ·exact oW rfl rfl rfl rfl (not_t hb456) fun h => yl_fieldAddr fd58_1 rfl (h.old 1 _ rfl rfl) kI
             ·exact oW rfl rfl rfl rfl (not_t hb456) fun h => yl_load1 ty56 rfl (h.dt 12 86 rfl rfl rfl) (((Box.ex hf444 h.ex).cell 1).trans rfl) kI
             ·exact oW rfl rfl rfl rfl (not_t hb456) fun h => yl_move rfl (h.old 5 _ rfl rfl) kI
             ·intro L844 w845 hi846
              have hE847 := hi846.ex
              have hE847z := Ex.size hE847
              exact OpR.want rfl rfl (hi846.dt 7 81 rfl rfl rfl) (not_t hb456) (Yl.sameI (yl_ixN un56 ty34 rfl (hi846.dt 13 87 rfl rfl rfl) (hi846.dt 14 88 rfl rfl rfl) eA743 kI))
             ·exact oW rfl rfl rfl rfl (not_t hb456) fun h => yl_loadN ty34 rfl (h.dt 15 89 rfl rfl rfl) (Cells.ex eC743 h.ex) rfl kI
             ·intro L858 w859 hi860
              have hE861 := hi860.ex
              exact OpR.want rfl rfl (hi860.dt 7 81 rfl rfl rfl) (not_t hb456) (yl_call en134 rfl (oc (hi860.dt 11 85 rfl rfl rfl) (oc (hi860.dt 16 90 rfl rfl rfl) oz)) (Cal.mono (c_s_l24SameCols ((s_l24Way (p_0.Ways.getD 0 d_Table) p_0.Name ((((p_0.Ways.getD ((IntKind.wrap .i64 ((p_0.Ways.length : Int) - 1)).toNat) d_Table).Idxs).getD (((s_l24Idx (p_0.Ways.getD ((IntKind.wrap .i64 ((p_0.Ways.length : Int) - 1)).toNat) d_Table) p_0.Name)).toNat) d_Idx).Stage)).getD k404 d_Table) (p_0.Ways.getD k404 d_Table) (RdS.up (RdS.ex good_Str h748 hE861) good_Str) (RdS.up (RdS.ex good_Idx h749 hE861) good_Idx) (RdS.up (RdS.ex good_Str h744 hE861) good_Str) (RdS.up (RdS.ex good_Idx h745 hE861) good_Idx) (okL.getD h396 ok_d_Table _) (okL.getD o4.2.1 ok_d_Table _)) fun _ _ h => h))
             ·exact oW rfl rfl rfl rfl (not_t hb456) fun h => yl_not rfl (h.dt 17 91 rfl rfl rfl) kI
             ·exact oI rfl fun h => yl_pick_f rfl (h.dt 7 81 rfl rfl rfl) (not_t hb456) (h.dt 18 92 rfl rfl rfl) kI
             ·exact oI rfl fun h => yl_move rfl (h.dt 19 93 rfl rfl rfl) kI
             ·exact oS rfl rfl rfl rfl rfl (not_f hb465)
             ·exact oS rfl rfl rfl rfl rfl (not_f hb465)
             ·exact oS rfl rfl rfl rfl rfl (not_f hb465)
             ·exact oS rfl rfl rfl rfl rfl (not_f hb465)
             ·exact oS rfl rfl rfl rfl rfl (not_f hb465)
             ·exact oS rfl rfl rfl rfl rfl (not_f hb465)
             ·exact oS rfl rfl rfl rfl rfl (not_f hb465)
             ·exact oS rfl rfl rfl rfl rfl (not_f hb465)
             ·exact oS rfl rfl rfl rfl rfl (not_f hb465)
             ·exact oS rfl rfl rfl rfl rfl (not_f hb465)
             ·exact oS rfl rfl rfl rfl rfl (not_f hb465)
             ·exact oI rfl fun h => yl_pick_t rfl (h.dt 20 94 rfl rfl rfl) (not_f hb465) rfl kI
             ·intro fl953 fh954 L950 w951 hp952
              have hE955 := hp952.ex
              have hE955z := Ex.size hE955
              refine dn (CW.sub (Sub.cons (d := 1) (hp952.old 1 _ rfl rfl) (Sub.cons (d := 4) (hp952.old 4 _ rfl rfl) (Sub.cons (d := 70) (hp952.old 70 _ rfl rfl) (Sub.cons (d := 71) (hp952.old 71 _ rfl rfl) (Sub.cons (d := 82) (hp952.nt 8 82 rfl rfl rfl) (Sub.cons (d := 83) (hp952.nt 9 83 rfl rfl rfl) (Sub.cons (d := 84) (hp952.nt 10 84 rfl rfl rfl) (Sub.cons (d := 85) (hp952.nt 11 85 rfl rfl rfl) (Sub.cons (d := 86) (hp952.nt 12 86 rfl rfl rfl) (Sub.cons (d := 87) (hp952.nt 13 87 rfl rfl rfl) (Sub.cons (d := 88) (hp952.nt 14 88 rfl rfl rfl) (Sub.cons (d := 89) (hp952.nt 15 89 rfl rfl rfl) (Sub.cons (d := 90) (hp952.nt 16 90 rfl rfl rfl) (Sub.cons (d := 91) (hp952.nt 17 91 rfl rfl rfl) (Sub.cons (d := 92) (hp952.nt 18 92 rfl rfl rfl) (Sub.cons (d := 95) (hp952.nt 21 95 rfl rfl rfl) (Sub.cons (d := 96) (hp952.nt 22 96 rfl rfl rfl) (Sub.cons (d := 97) (hp952.nt 23 97 rfl rfl rfl) (Sub.cons (d := 98) (hp952.nt 24 98 rfl rfl rfl) (Sub.cons (d := 99) (hp952.nt 25 99 rfl rfl rfl) (Sub.cons (d := 100) (hp952.nt 26 100 rfl rfl rfl) (Sub.cons (d := 101) (hp952.nt 27 101 rfl rfl rfl) (Sub.cons (d := 102) (hp952.nt 28 102 rfl rfl rfl) (Sub.cons (d := 103) (hp952.nt 29 103 rfl rfl rfl) (Sub.cons (d := 104) (hp952.nt 30 104 rfl rfl rfl) (Sub.cons (d := 105) (hp952.nt 31 105 rfl rfl rfl) (Sub.cons (d := 106) (hp952.nt 32 106 rfl rfl rfl) (Sub.nil _)))))))))))))))))))))))))))) (CW.cond_t rfl rfl (CW.seq (CW.region (sd rfl (yl_assign rfl rfl (dn ?_)))))))
              refine CW.ret (br (tr (tr ?_)))
              have hB984 : B_s_l27Ways_0 p_0 k404 () = .ret false := by simp only [B_s_l27Ways_0, hb16, hb23, hb191, hb216, hb227, hb403, hb456, hb465, cL]
              have hL983 : loopM (B_s_l27Ways_0 p_0) ((s_l24Way (p_0.Ways.getD 0 d_Table) p_0.Name ((((p_0.Ways.getD ((IntKind.wrap .i64 ((p_0.Ways.length : Int) - 1)).toNat) d_Table).Idxs).getD (((s_l24Idx (p_0.Ways.getD ((IntKind.wrap .i64 ((p_0.Ways.length : Int) - 1)).toNat) d_Table) p_0.Name)).toNat) d_Idx).Stage)).length - 0) 0 () = .ret false := hI438.symm.trans (loopM.ret hlt451 hB984)
              refine br (tr (rr rfl (.cons rfl .nil) ?_))
              have hM985 : (s_l27Ways p_0) = (false) := by simp only [s_l27Ways, hb16, hb23, hb191, hb216, hb227, hb403, hb456, hb465, hL983, cL]
              rw [hM985]
              exact ⟨rfl, (Ex.trans hf449 hE955)⟩
           ·obtain ⟨eb987, eo987, _, eA987, _, ebl987, _, eR987, eC987⟩ := RdS.aD hf445 d_Table (i := k404)
            obtain ⟨A988, c988, A989, c989, rfl, h988, h989⟩ := eR987
            refine CW.drawsI 33 (vgetI ([.pointer (some ⟨b9, 0 + 1, none⟩), .slice A1 p_0.Ways.length c1, .int .i64 ((k404 : Int)), .pointer (some ⟨eb987, eo987 + k404 * 3, none⟩), .agg #[.string (bs ((p_0.Ways.getD k404 d_Table).Name)), .slice A988 (((p_0.Ways.getD k404 d_Table).Cols).length) c988, .slice A989 (((p_0.Ways.getD k404 d_Table).Idxs).length) c989], .bool ((s_GoodTable (p_0.Ways.getD k404 d_Table))), .bool (!(s_GoodTable (p_0.Ways.getD k404 d_Table))), .bool (!(s_GoodTable (p_0.Ways.getD k404 d_Table))), undef, undef, undef, undef, undef, undef, undef, undef, undef, undef, undef, .bool (true), .bool (true), undef, undef, undef, undef, undef, undef, undef, undef, undef, undef, undef, .bool (true)].map DetI)) Tryz.follows rfl rfl rfl rfl rfl rfl (vgetI_stable (stD _)) ⟨?_, ?_, ?_, ?_, ?_, ?_, ?_, ?_, ?_, ?_, ?_, ?_, ?_, ?_, ?_, ?_, ?_, ?_, ?_, ?_, ?_, ?_, ?_, ?_, ?_, ?_, ?_, ?_, ?_, ?_, ?_, ?_, ?_, trivial⟩ ?_
            ·exact oI rfl fun h => yl_fieldAddr fd58_1 rfl (h.old 1 _ rfl rfl) kI
            ·exact oI rfl fun h => yl_load1 ty56 rfl (h.dt 0 74 rfl rfl rfl) (((Box.ex hf444 h.ex).cell 1).trans rfl) kI
            ·exact oI rfl fun h => yl_move rfl (h.old 5 _ rfl rfl) kI
            ·intro L1007 w1008 hi1009
             have hE1010 := hi1009.ex
             have hE1010z := Ex.size hE1010
             exact os rfl ((yl_ixN un56 ty34 rfl (hi1009.dt 1 75 rfl rfl rfl) (hi1009.dt 2 76 rfl rfl rfl) eA987 kI))
            ·exact oI rfl fun h => yl_loadN ty34 rfl (h.dt 3 77 rfl rfl rfl) (Cells.ex eC987 h.ex) rfl kI
            ·intro L1019 w1020 hi1021
             have hE1022 := hi1021.ex
             exact OpR.op' rfl (yl_call en26 rfl (oc (hi1021.dt 4 78 rfl rfl rfl) oz) (Cal.mono (c_s_GoodTable (p_0.Ways.getD k404 d_Table) (RdS.up (RdS.ex good_Str h988 hE1022) good_Str) (RdS.up (RdS.ex good_Idx h989 hE1022) good_Idx) (okL.getD o4.2.1 ok_d_Table _)) fun _ _ h => h))
            ·exact oI rfl fun h => yl_not rfl (h.dt 5 79 rfl rfl rfl) kI
            ·exact oI rfl fun h => yl_move rfl (h.dt 6 80 rfl rfl rfl) kI
            ·exact oS rfl rfl rfl rfl rfl (not_f hb456)
            ·exact oS rfl rfl rfl rfl rfl (not_f hb456)
            ·exact oS rfl rfl rfl rfl rfl (not_f hb456)
            ·exact oS rfl rfl rfl rfl rfl (not_f hb456)
            ·exact oS rfl rfl rfl rfl rfl (not_f hb456)
            ·exact oS rfl rfl rfl rfl rfl (not_f hb456)
            ·exact oS rfl rfl rfl rfl rfl (not_f hb456)
            ·exact oS rfl rfl rfl rfl rfl (not_f hb456)
            ·exact oS rfl rfl rfl rfl rfl (not_f hb456)
            ·exact oS rfl rfl rfl rfl rfl (not_f hb456)
            ·exact oS rfl rfl rfl rfl rfl (not_f hb456)
            ·exact oI rfl fun h => yl_pick_t rfl (h.dt 7 81 rfl rfl rfl) (not_f hb456) rfl kI
            ·exact oI rfl fun h => yl_move rfl (h.dt 19 93 rfl rfl rfl) kI
            ·exact oS rfl rfl rfl rfl rfl rfl
            ·exact oS rfl rfl rfl rfl rfl rfl
            ·exact oS rfl rfl rfl rfl rfl rfl
            ·exact oS rfl rfl rfl rfl rfl rfl
            ·exact oS rfl rfl rfl rfl rfl rfl
            ·exact oS rfl rfl rfl rfl rfl rfl
            ·exact oS rfl rfl rfl rfl rfl rfl
            ·exact oS rfl rfl rfl rfl rfl rfl
            ·exact oS rfl rfl rfl rfl rfl rfl
            ·exact oS rfl rfl rfl rfl rfl rfl
            ·exact oS rfl rfl rfl rfl rfl rfl
            ·exact oI rfl fun h => yl_pick_t rfl (h.dt 20 94 rfl rfl rfl) rfl rfl kI
            ·intro fl1169 fh1170 L1166 w1167 hp1168
             have hE1171 := hp1168.ex
             have hE1171z := Ex.size hE1171
             refine dn (CW.sub (Sub.cons (d := 1) (hp1168.old 1 _ rfl rfl) (Sub.cons (d := 4) (hp1168.old 4 _ rfl rfl) (Sub.cons (d := 70) (hp1168.old 70 _ rfl rfl) (Sub.cons (d := 71) (hp1168.old 71 _ rfl rfl) (Sub.cons (d := 82) (hp1168.nt 8 82 rfl rfl rfl) (Sub.cons (d := 83) (hp1168.nt 9 83 rfl rfl rfl) (Sub.cons (d := 84) (hp1168.nt 10 84 rfl rfl rfl) (Sub.cons (d := 85) (hp1168.nt 11 85 rfl rfl rfl) (Sub.cons (d := 86) (hp1168.nt 12 86 rfl rfl rfl) (Sub.cons (d := 87) (hp1168.nt 13 87 rfl rfl rfl) (Sub.cons (d := 88) (hp1168.nt 14 88 rfl rfl rfl) (Sub.cons (d := 89) (hp1168.nt 15 89 rfl rfl rfl) (Sub.cons (d := 90) (hp1168.nt 16 90 rfl rfl rfl) (Sub.cons (d := 91) (hp1168.nt 17 91 rfl rfl rfl) (Sub.cons (d := 92) (hp1168.nt 18 92 rfl rfl rfl) (Sub.cons (d := 95) (hp1168.nt 21 95 rfl rfl rfl) (Sub.cons (d := 96) (hp1168.nt 22 96 rfl rfl rfl) (Sub.cons (d := 97) (hp1168.nt 23 97 rfl rfl rfl) (Sub.cons (d := 98) (hp1168.nt 24 98 rfl rfl rfl) (Sub.cons (d := 99) (hp1168.nt 25 99 rfl rfl rfl) (Sub.cons (d := 100) (hp1168.nt 26 100 rfl rfl rfl) (Sub.cons (d := 101) (hp1168.nt 27 101 rfl rfl rfl) (Sub.cons (d := 102) (hp1168.nt 28 102 rfl rfl rfl) (Sub.cons (d := 103) (hp1168.nt 29 103 rfl rfl rfl) (Sub.cons (d := 104) (hp1168.nt 30 104 rfl rfl rfl) (Sub.cons (d := 105) (hp1168.nt 31 105 rfl rfl rfl) (Sub.cons (d := 106) (hp1168.nt 32 106 rfl rfl rfl) (Sub.nil _)))))))))))))))))))))))))))) (CW.cond_t rfl rfl (CW.seq (CW.region (sd rfl (yl_assign rfl rfl (dn ?_)))))))
             refine CW.ret (br (tr (tr ?_)))
             have hB1200 : B_s_l27Ways_0 p_0 k404 () = .ret false := by simp only [B_s_l27Ways_0, hb16, hb23, hb191, hb216, hb227, hb403, hb456, cL]
             have hL1199 : loopM (B_s_l27Ways_0 p_0) ((s_l24Way (p_0.Ways.getD 0 d_Table) p_0.Name ((((p_0.Ways.getD ((IntKind.wrap .i64 ((p_0.Ways.length : Int) - 1)).toNat) d_Table).Idxs).getD (((s_l24Idx (p_0.Ways.getD ((IntKind.wrap .i64 ((p_0.Ways.length : Int) - 1)).toNat) d_Table) p_0.Name)).toNat) d_Idx).Stage)).length - 0) 0 () = .ret false := hI438.symm.trans (loopM.ret hlt451 hB1200)
             refine br (tr (rr rfl (.cons rfl .nil) ?_))
             have hM1201 : (s_l27Ways p_0) = (false) := by simp only [s_l27Ways, hb16, hb23, hb191, hb216, hb227, hb403, hb456, hL1199, cL]
             rw [hM1201]
             exact ⟨rfl, (Ex.trans hf449 hE1171)⟩
          ·refine CW.seq (CW.region (sd rfl (yl_lss rfl rfl rfl (dn (CW.seq (CW.cond_f rfl (lt_f hlt451) (CW.exit (tx ?_))))))))
           refine tx ?_
           have hL1203 : loopM (B_s_l27Ways_0 p_0) ((s_l24Way (p_0.Ways.getD 0 d_Table) p_0.Name ((((p_0.Ways.getD ((IntKind.wrap .i64 ((p_0.Ways.length : Int) - 1)).toNat) d_Table).Idxs).getD (((s_l24Idx (p_0.Ways.getD ((IntKind.wrap .i64 ((p_0.Ways.length : Int) - 1)).toNat) d_Table) p_0.Name)).toNat) d_Idx).Stage)).length - 0) 0 () = .done () := hI438.symm.trans (loopM.stop hlt451)
           refine bx (tn (CW.seq (CW.region (sd rfl (yl_assign rfl rfl (dn (CW.ret (rr rfl (.cons rfl .nil) ?_))))))))
           have hM1204 : (s_l27Ways p_0) = (true) := by simp only [s_l27Ways, hb16, hb23, hb191, hb216, hb227, hb403, hL1203, cL]
           rw [hM1204]
           exact ⟨rfl, hf449⟩
        ·have hb403p := dec_f hb403
         refine CW.cond_t rfl (not_f hb403) (CW.seq (CW.region (sd rfl (yl_assign rfl rfl (dn (CW.ret (tr (rr rfl (.cons rfl .nil) ?_))))))))
         have hM1205 : (s_l27Ways p_0) = (false) := by simp only [s_l27Ways, hb16, hb23, hb191, hb216, hb227, hb403, cL]
         rw [hM1205]
         exact ⟨rfl, (Ex.trans (Ex.trans (Ex.trans (Below.only (Ex.trans (Ex.trans (Ex.trans (Ex.refl w) hE14) hE188) hE205) hO208 (by omega)) hE215) hE225) hE387)⟩
     ·refine sz rfl rfl (not_f hb216) (sz rfl rfl (not_f hb216) (sz rfl rfl (not_f hb216) (sz rfl rfl (not_f hb216) (sz rfl rfl (not_f hb216) (sd rfl (yl_pick_t rfl rfl (not_f hb216) rfl (dn (CW.cond_t rfl rfl ?_))))))))
      refine CW.seq (CW.region (sd rfl (yl_assign rfl rfl (dn (CW.ret (tr (rr rfl (.cons rfl .nil) ?_)))))))
      have hM1213 : (s_l27Ways p_0) = (false) := by simp only [s_l27Ways, hb16, hb23, hb191, hb216, cL]
      rw [hM1213]
      exact ⟨rfl, (Ex.trans (Below.only (Ex.trans (Ex.trans (Ex.trans (Ex.refl w) hE14) hE188) hE205) hO208 (by omega)) hE215)⟩
  ·obtain ⟨eb1221, eo1221, _, eA1221, _, ebl1221, _, eR1221, eC1221⟩ := RdS.aD (RdS.ex good_Table h1 hE14) d_Table (i := 0)
   obtain ⟨A1222, c1222, A1223, c1223, rfl, h1222, h1223⟩ := eR1221
   refine CW.drawsI 23 (vgetI ([.pointer (some ⟨b9, 0 + 1, none⟩), .slice A1 p_0.Ways.length c1, .int .i64 ((p_0.Ways.length : Int)), .bool ((s_l1In (p_0.Ways.length : Int) 1 4)), .bool (!(s_l1In (p_0.Ways.length : Int) 1 4)), .bool (!(s_l1In (p_0.Ways.length : Int) 1 4)), .pointer (some ⟨b9, 0 + 1, none⟩), .slice A1 p_0.Ways.length c1, .pointer (some ⟨eb1221, eo1221 + 0 * 3, none⟩), .agg #[.string (bs ((p_0.Ways.getD 0 d_Table).Name)), .slice A1222 (((p_0.Ways.getD 0 d_Table).Cols).length) c1222, .slice A1223 (((p_0.Ways.getD 0 d_Table).Idxs).length) c1223], .bool ((s_GoodTable (p_0.Ways.getD 0 d_Table))), .bool (!(s_GoodTable (p_0.Ways.getD 0 d_Table))), .bool (!(s_GoodTable (p_0.Ways.getD 0 d_Table))), .bool (!(s_GoodTable (p_0.Ways.getD 0 d_Table))), undef, undef, undef, undef, undef, undef, undef, undef, .bool (true)].map DetI)) Tryz.follows rfl rfl rfl rfl rfl rfl (vgetI_stable (stD _)) ⟨?_, ?_, ?_, ?_, ?_, ?_, ?_, ?_, ?_, ?_, ?_, ?_, ?_, ?_, ?_, ?_, ?_, ?_, ?_, ?_, ?_, ?_, ?_, trivial⟩ ?_
   ·exact oI rfl fun h => yl_fieldAddr fd58_1 rfl (h.old 1 _ rfl rfl) kI
   ·exact oI rfl fun h => yl_load1 ty56 rfl (h.dt 0 6 rfl rfl rfl) (((Box.ex hB13 h.ex).cell 1).trans rfl) kI
   ·exact oI rfl fun h => yl_len un56 rfl (h.dt 1 7 rfl rfl rfl) kI
   ·intro L1241 w1242 hi1243
    exact OpR.op' rfl (yl_call en61 rfl (oc (hi1243.dt 2 8 rfl rfl rfl) (oc rfl (oc rfl oz))) (Cal.mono (c_s_l1In (p_0.Ways.length : Int) 1 4) fun _ _ h => h))
   ·exact oI rfl fun h => yl_not rfl (h.dt 3 9 rfl rfl rfl) kI
   ·exact oI rfl fun h => yl_move rfl (h.dt 4 10 rfl rfl rfl) kI
   ·exact oW rfl rfl rfl rfl (not_t hb16) fun h => yl_fieldAddr fd58_1 rfl (h.old 1 _ rfl rfl) kI
   ·exact oW rfl rfl rfl rfl (not_t hb16) fun h => yl_load1 ty56 rfl (h.dt 6 12 rfl rfl rfl) (((Box.ex hB13 h.ex).cell 1).trans rfl) kI
   ·intro L1272 w1273 hi1274
    have hE1275 := hi1274.ex
    have hE1275z := Ex.size hE1275
    exact OpR.want rfl rfl (hi1274.dt 5 11 rfl rfl rfl) (not_t hb16) (Yl.sameI (yl_ixN un56 ty34 rfl (hi1274.dt 7 13 rfl rfl rfl) rfl eA1221 kI))
   ·exact oW rfl rfl rfl rfl (not_t hb16) fun h => yl_loadN ty34 rfl (h.dt 8 14 rfl rfl rfl) (Cells.ex eC1221 h.ex) rfl kI
   ·intro L1285 w1286 hi1287
    have hE1288 := hi1287.ex
    exact OpR.want rfl rfl (hi1287.dt 5 11 rfl rfl rfl) (not_t hb16) (yl_call en26 rfl (oc (hi1287.dt 9 15 rfl rfl rfl) oz) (Cal.mono (c_s_GoodTable (p_0.Ways.getD 0 d_Table) (RdS.up (RdS.ex good_Str h1222 hE1288) good_Str) (RdS.up (RdS.ex good_Idx h1223 hE1288) good_Idx) (okL.getD o4.2.1 ok_d_Table _)) fun _ _ h => h))
   ·exact oW rfl rfl rfl rfl (not_t hb16) fun h => yl_not rfl (h.dt 10 16 rfl rfl rfl) kI
   ·exact oI rfl fun h => yl_pick_f rfl (h.dt 5 11 rfl rfl rfl) (not_t hb16) (h.dt 11 17 rfl rfl rfl) kI
   ·exact oI rfl fun h => yl_move rfl (h.dt 12 18 rfl rfl rfl) kI
   ·exact oS rfl rfl rfl rfl rfl (not_f hb23)
   ·exact oS rfl rfl rfl rfl rfl (not_f hb23)
   ·exact oS rfl rfl rfl rfl rfl (not_f hb23)
   ·exact oS rfl rfl rfl rfl rfl (not_f hb23)
   ·exact oS rfl rfl rfl rfl rfl (not_f hb23)
   ·exact oS rfl rfl rfl rfl rfl (not_f hb23)
   ·exact oS rfl rfl rfl rfl rfl (not_f hb23)
   ·exact oS rfl rfl rfl rfl rfl (not_f hb23)
   ·exact oI rfl fun h => yl_pick_t rfl (h.dt 13 19 rfl rfl rfl) (not_f hb23) rfl kI
   ·intro fl1362 fh1363 L1359 w1360 hp1361
    have hE1364 := hp1361.ex
    have hE1364z := Ex.size hE1364
    refine dn (CW.sub (Sub.cons (d := 1) (hp1361.old 1 _ rfl rfl) (Sub.cons (d := 28) (hp1361.nt 22 28 rfl rfl rfl) (Sub.nil _))) (CW.cond_t rfl rfl (CW.seq (CW.region (sd rfl (yl_assign rfl rfl (dn ?_)))))))
    refine CW.ret (tr (rr rfl (.cons rfl .nil) ?_))
    have hM1367 : (s_l27Ways p_0) = (false) := by simp only [s_l27Ways, hb16, hb23, cL]
    rw [hM1367]
    exact ⟨rfl, (Ex.trans (Ex.trans (Ex.refl w) hE14) hE1364)⟩
 ·refine CW.drawsI 23 (vgetI ([.pointer (some ⟨b9, 0 + 1, none⟩), .slice A1 p_0.Ways.length c1, .int .i64 ((p_0.Ways.length : Int)), .bool ((s_l1In (p_0.Ways.length : Int) 1 4)), .bool (!(s_l1In (p_0.Ways.length : Int) 1 4)), .bool (!(s_l1In (p_0.Ways.length : Int) 1 4)), undef, undef, undef, undef, undef, undef, .bool (true), .bool (true), undef, undef, undef, undef, undef, undef, undef, undef, .bool (true)].map DetI)) Tryz.follows rfl rfl rfl rfl rfl rfl (vgetI_stable (stD _)) ⟨?_, ?_, ?_, ?_, ?_, ?_, ?_, ?_, ?_, ?_, ?_, ?_, ?_, ?_, ?_, ?_, ?_, ?_, ?_, ?_, ?_, ?_, ?_, trivial⟩ ?_
  ·exact oI rfl fun h => yl_fieldAddr fd58_1 rfl (h.old 1 _ rfl rfl) kI
  ·exact oI rfl fun h => yl_load1 ty56 rfl (h.dt 0 6 rfl rfl rfl) (((Box.ex hB13 h.ex).cell 1).trans rfl) kI
  ·exact oI rfl fun h => yl_len un56 rfl (h.dt 1 7 rfl rfl rfl) kI
  ·intro L1387 w1388 hi1389
   exact OpR.op' rfl (yl_call en61 rfl (oc (hi1389.dt 2 8 rfl rfl rfl) (oc rfl (oc rfl oz))) (Cal.mono (c_s_l1In (p_0.Ways.length : Int) 1 4) fun _ _ h => h))
  ·exact oI rfl fun h => yl_not rfl (h.dt 3 9 rfl rfl rfl) kI
  ·exact oI rfl fun h => yl_move rfl (h.dt 4 10 rfl rfl rfl) kI
  ·exact oS rfl rfl rfl rfl rfl (not_f hb16)
  ·exact oS rfl rfl rfl rfl rfl (not_f hb16)
  ·exact oS rfl rfl rfl rfl rfl (not_f hb16)
  ·exact oS rfl rfl rfl rfl rfl (not_f hb16)
  ·exact oS rfl rfl rfl rfl rfl (not_f hb16)
  ·exact oS rfl rfl rfl rfl rfl (not_f hb16)
  ·exact oI rfl fun h => yl_pick_t rfl (h.dt 5 11 rfl rfl rfl) (not_f hb16) rfl kI
  ·exact oI rfl fun h => yl_move rfl (h.dt 12 18 rfl rfl rfl) kI
  ·exact oS rfl rfl rfl rfl rfl rfl
  ·exact oS rfl rfl rfl rfl rfl rfl
  ·exact oS rfl rfl rfl rfl rfl rfl
  ·exact oS rfl rfl rfl rfl rfl rfl
  ·exact oS rfl rfl rfl rfl rfl rfl
  ·exact oS rfl rfl rfl rfl rfl rfl
  ·exact oS rfl rfl rfl rfl rfl rfl
  ·exact oS rfl rfl rfl rfl rfl rfl
  ·exact oI rfl fun h => yl_pick_t rfl (h.dt 13 19 rfl rfl rfl) rfl rfl kI
  ·intro fl1495 fh1496 L1492 w1493 hp1494
   have hE1497 := hp1494.ex
   have hE1497z := Ex.size hE1497
   refine dn (CW.sub (Sub.cons (d := 1) (hp1494.old 1 _ rfl rfl) (Sub.cons (d := 28) (hp1494.nt 22 28 rfl rfl rfl) (Sub.nil _))) (CW.cond_t rfl rfl (CW.seq (CW.region (sd rfl (yl_assign rfl rfl (dn ?_)))))))
   refine CW.ret (tr (rr rfl (.cons rfl .nil) ?_))
   have hM1500 : (s_l27Ways p_0) = (false) := by simp only [s_l27Ways, hb16, cL]
   rw [hM1500]
   exact ⟨rfl, (Ex.trans (Ex.trans (Ex.refl w) hE14) hE1497)⟩
theorem c_s_l1All {A1 : Option Addr} {c1 : Nat} {w : World} (p_l : List Int) (p_lo : Int) (p_hi : Int) (h1 : RdS w (Iv 0 w.heap.size) (RF e_Int) 1 A1 p_l.length c1 p_l) (o2 : (okL okT) p_l) : Cal Tryz.prog 106 #[.slice A1 p_l.length c1, .int .i64 (p_lo), .int .i64 (p_hi)] w fun v w' => v = .bool ((s_l1All p_l p_lo p_hi)) ∧ Ex w w' := by
 have hol3 := o2.1
 refine Cal.of func106 rfl ntmps106 rfl (CW.seq (CW.region (sd rfl (yl_assign rfl rfl (dn (CW.seq (CW.seq (CW.region ?_))))))))
 refine sd rfl (yl_move rfl rfl (sd rfl (yl_len un46 rfl rfl (sd rfl (yl_move rfl rfl (dn (CW.block (CW.loop (fun m5 L6 w7 => ∃ (k4 : Nat), m5 = p_l.length - k4 ∧ k4 ≤ p_l.length ∧ w.heap.size ≤ w7.heap.size ∧ lkp L6 1 = some (.int .i64 (p_lo)) ∧ lkp L6 2 = some (.int .i64 (p_hi)) ∧ lkp L6 9 = some (.slice A1 p_l.length c1) ∧ lkp L6 10 = some (.int .i64 ((p_l.length : Int))) ∧ lkp L6 11 = some (.int .i64 ((k4 : Int))) ∧ RdS w7 (Iv 0 w.heap.size) (RF e_Int) 1 A1 p_l.length c1 p_l ∧ Ex w w7 ∧ loopM (B_s_l1All_0 p_l p_lo p_hi) (p_l.length - k4) k4 () = loopM (B_s_l1All_0 p_l p_lo p_hi) (p_l.length - 0) 0 ()) (p_l.length - 0) ?_ ?_))))))))
 ·exact ⟨0, rfl, (by omega), Nat.le_refl _, rfl, rfl, rfl, rfl, rfl, h1, (Ex.refl w), rfl⟩
 ·rintro m8 L9 w10 ⟨k4, rfl, hk11, hsz13, hl14, hl15, hl16, hl17, hl18, hf19, hf20, hI12⟩
  refine CW.sub (Sub.cons hl14 (Sub.cons hl15 (Sub.cons hl16 (Sub.cons hl17 (Sub.cons hl18 (Sub.nil _)))))) ?_
  have hf20z := Ex.size hf20
  have hbg21 := RdS.big hf19
  rcases Nat.lt_or_ge k4 p_l.length with hlt22 | hlt22
  ·refine CW.seq (CW.region (sd rfl (yl_lss rfl rfl rfl (dn (CW.seq (CW.cond_t rfl (lt_t hlt22) (CW.skip (tn ?_))))))))
   refine CW.seq (CW.block (CW.seq (CW.region ?_)))
   obtain ⟨eb23, eo23, _, eA23, _, ebl23, _, eR23, eC23⟩ := RdS.aD hf19 d_Int (i := k4)
   obtain rfl := eR23
   have eC23 : Cells w10 eb23 (eo23 + k4 * 1) [.int .i64 ((p_l.getD k4 d_Int))] := eC23
   refine sd rfl (yl_ixN un46 ty3 rfl rfl rfl eA23 (sd rfl (yl_load1 ty3 rfl rfl (eC23 0 _ rfl) (sd rfl (yl_assign rfl rfl (dn (CW.seq (CW.region (sd rfl (yl_move rfl rfl (sd rfl (yl_move rfl rfl ?_))))))))))))
   refine sd rfl (yl_move rfl rfl (sd rfl (yl_call en61 rfl (oc rfl (oc rfl (oc rfl oz))) (Cal.mono (c_s_l1In (p_l.getD k4 d_Int) p_lo p_hi) ?_))))
   rintro v25 w24 ⟨rfl, hE26⟩
   have hE26z := Ex.size hE26
   refine sd rfl (yl_not rfl rfl (dn (bcase (s_l1In (p_l.getD k4 d_Int) p_lo p_hi) (fun hb27 => ?_) (fun hb27 => ?_))))
   ·have hb27p := f_l1In hb27
    refine CW.cond_f rfl (not_t hb27) (CW.skip (bn (tn (CW.region (sd rfl (yl_inc rfl rfl rfl (by omega) (sd rfl (yl_move rfl rfl (dn ?_)))))))))
    have hB28 : B_s_l1All_0 p_l p_lo p_hi k4 () = .cont () := by simp only [B_s_l1All_0, hb27, cL]
    exact ⟨p_l.length - (k4 + 1), by omega, k4 + 1, rfl, hlt22, (by omega), rfl, rfl, rfl, rfl, rfl, (RdS.ex good_Int hf19 hE26), (Ex.trans hf20 hE26), (loopM.cont hlt22 hB28).symm.trans hI12⟩
   ·refine CW.cond_t rfl (not_f hb27) (CW.seq (CW.region (sd rfl (yl_assign rfl rfl (dn (CW.ret (br (tr ?_))))))))
    refine tr ?_
    have hB32 : B_s_l1All_0 p_l p_lo p_hi k4 () = .ret false := by simp only [B_s_l1All_0, hb27, cL]
    have hL31 : loopM (B_s_l1All_0 p_l p_lo p_hi) (p_l.length - 0) 0 () = .ret false := hI12.symm.trans (loopM.ret hlt22 hB32)
    refine br (tr (rr rfl (.cons rfl .nil) ?_))
    have hM33 : (s_l1All p_l p_lo p_hi) = (false) := by simp only [s_l1All, hb27, hL31, cL]
    rw [hM33]
    exact ⟨rfl, (Ex.trans hf20 hE26)⟩
  ·refine CW.seq (CW.region (sd rfl (yl_lss rfl rfl rfl (dn (CW.seq (CW.cond_f rfl (lt_f hlt22) (CW.exit (tx ?_))))))))
   refine tx ?_
   have hL35 : loopM (B_s_l1All_0 p_l p_lo p_hi) (p_l.length - 0) 0 () = .done () := hI12.symm.trans (loopM.stop hlt22)
   refine bx (tn (CW.seq (CW.region (sd rfl (yl_assign rfl rfl (dn (CW.ret (rr rfl (.cons rfl .nil) ?_))))))))
   have hM36 : (s_l1All p_l p_lo p_hi) = (true) := by simp only [s_l1All, hL35, cL]
   rw [hM36]
   exact ⟨rfl, hf20⟩
theorem c_s_GoodShift {A1 : Option Addr} {c1 : Nat} {A2 : Option Addr} {c2 : Nat} {A3 : Option Addr} {c3 : Nat} {w : World} (p_c : DShift) (h1 : RdS w (Iv 0 w.heap.size) R_Table 3 A1 p_c.Ways.length c1 p_c.Ways) (h2 : RdS w (Iv 0 w.heap.size) (RF e_Int) 1 A2 p_c.At.length c2 p_c.At) (h3 : RdS w (Iv 0 w.heap.size) (RF e_Write) 3 A3 p_c.Store.length c3 p_c.Store) (o4 : ok_Shift p_c) : Cal Tryz.prog 75 #[.agg #[.string (bs (p_c.Name)), .slice A1 p_c.Ways.length c1, .slice A2 p_c.At.length c2, .slice A3 p_c.Store.length c3]] w fun v w' => v = .bool ((s_GoodShift p_c)) ∧ Ex w w' := by
 refine Cal.of func75 rfl ntmps75 rfl (CW.seq (CW.region (sd rfl (yl_box rfl rfl rfl ?_))))
 intro b9 w10 hs11 hz12 hB13 hE14
 refine sd rfl (yl_assign rfl rfl (dn (CW.seq (CW.region (sd rfl (yl_loadN ty58 rfl rfl (hB13.cells (n := 4) rfl) rfl ?_))))))
 have q16 := RdS.ex good_Int h2 hE14
 have q17 := RdS.ex good_Write h3 hE14
 refine sd rfl (yl_call en105 rfl (oc rfl oz) (Cal.mono (c_s_l27Ways p_c (RdS.up (RdS.ex good_Table h1 hE14) good_Table) (RdS.up q16 good_Int) (RdS.up q17 good_Write) o4) ?_))
 rintro v19 w18 ⟨rfl, hE20⟩
 refine sd rfl (yl_move rfl rfl (bcase (s_l27Ways p_c) (fun hb21 => ?_) (fun hb21 => ?_)))
 ·refine sy rfl rfl hb21 (yl_fieldAddr fd58_2 rfl rfl ?_)
  have q22 := Box.ex hB13 hE20
  refine sy rfl rfl hb21 (yl_load1 ty46 rfl rfl ((q22.cell 2).trans rfl) (sy rfl rfl hb21 (yl_len un46 rfl rfl (sy rfl rfl hb21 (yl_call en61 rfl (oc rfl (oc rfl (oc rfl oz))) (Cal.mono (c_s_l1In (p_c.At.length : Int) 1 3) ?_))))))
  rintro v24 w23 ⟨rfl, hE25⟩
  refine sd rfl (yl_pick_t rfl rfl hb21 rfl (sd rfl (yl_move rfl rfl (bcase (s_l1In (p_c.At.length : Int) 1 3) (fun hb26 => ?_) (fun hb26 => ?_)))))
  ·have hb26p := f_l1In hb26
   refine sy rfl rfl hb26 (yl_fieldAddr fd58_2 rfl rfl ?_)
   have q27 := Box.ex q22 hE25
   refine sy rfl rfl hb26 (yl_load1 ty46 rfl rfl ((q27.cell 2).trans rfl) (sy rfl rfl hb26 (yl_fieldAddr fd58_1 rfl rfl (sy rfl rfl hb26 (yl_load1 ty56 rfl rfl ((q27.cell 1).trans rfl) (sy rfl rfl hb26 (yl_len un56 rfl rfl (sy rfl rfl hb26 (yl_sub rfl rfl rfl (sy rfl rfl hb26 (yl_call en106 rfl (oc rfl (oc rfl (oc rfl oz))) (Cal.mono (c_s_l1All p_c.At 0 (IntKind.wrap .i64 ((p_c.Ways.length : Int) - 1)) (RdS.up (RdS.ex good_Int (RdS.ex good_Int q16 hE20) hE25) good_Int) o4.2.2.1) ?_))))))))))))
   rintro v31 w30 ⟨rfl, hE32⟩
   refine sd rfl (yl_pick_t rfl rfl hb26 rfl (sd rfl (yl_move rfl rfl (bcase (s_l1All p_c.At 0 (IntKind.wrap .i64 ((p_c.Ways.length : Int) - 1))) (fun hb33 => ?_) (fun hb33 => ?_)))))
   ·refine sy rfl rfl hb33 (yl_fieldAddr fd58_3 rfl rfl (sy rfl rfl hb33 (yl_load1 ty36 rfl rfl (((Box.ex q27 hE32).cell 3).trans rfl) (sy rfl rfl hb33 (yl_call en27 rfl (oc rfl oz) (Cal.mono (c_s_l5Rows p_c.Store (RdS.up (RdS.ex good_Write (RdS.ex good_Write (RdS.ex good_Write q17 hE20) hE25) hE32) good_Write) o4.2.2.2) ?_))))))
    rintro v39 w38 ⟨rfl, hE40⟩
    refine sd rfl (yl_pick_t rfl rfl hb33 rfl (sd rfl (yl_assign rfl rfl (dn (CW.ret (rr rfl (.cons rfl .nil) ?_))))))
    have hM41 : (s_GoodShift p_c) = ((s_l5Rows p_c.Store)) := by simp only [s_GoodShift, hb21, hb26, hb33, cL]
    rw [hM41]
    exact ⟨rfl, (Ex.trans (Ex.trans (Ex.trans (Ex.trans (Ex.trans (Ex.refl w) hE14) hE20) hE25) hE32) hE40)⟩
   ·refine sz rfl rfl hb33 (sz rfl rfl hb33 (sz rfl rfl hb33 (sd rfl (yl_pick_f rfl rfl hb33 rfl (sd rfl (yl_assign rfl rfl (dn (CW.ret (rr rfl (.cons rfl .nil) ?_)))))))))
    have hM47 : (s_GoodShift p_c) = (false) := by simp only [s_GoodShift, hb21, hb26, hb33, cL]
    rw [hM47]
    exact ⟨rfl, (Ex.trans (Ex.trans (Ex.trans (Ex.trans (Ex.refl w) hE14) hE20) hE25) hE32)⟩
  ·refine sz rfl rfl hb26 (sz rfl rfl hb26 (sz rfl rfl hb26 (sz rfl rfl hb26 (sz rfl rfl hb26 (sz rfl rfl hb26 (sz rfl rfl hb26 (sd rfl (yl_pick_f rfl rfl hb26 rfl (sd rfl (yl_move rfl rfl ?_))))))))))
   refine sz rfl rfl rfl (sz rfl rfl rfl (sz rfl rfl rfl (sd rfl (yl_pick_f rfl rfl rfl rfl (sd rfl (yl_assign rfl rfl (dn (CW.ret (rr rfl (.cons rfl .nil) ?_)))))))))
   have hM52 : (s_GoodShift p_c) = (false) := by simp only [s_GoodShift, hb21, hb26, cL]
   rw [hM52]
   exact ⟨rfl, (Ex.trans (Ex.trans (Ex.trans (Ex.refl w) hE14) hE20) hE25)⟩
 ·refine sz rfl rfl hb21 (sz rfl rfl hb21 (sz rfl rfl hb21 (sz rfl rfl hb21 (sd rfl (yl_pick_f rfl rfl hb21 rfl (sd rfl (yl_move rfl rfl (sz rfl rfl rfl (sz rfl rfl rfl (sz rfl rfl rfl ?_))))))))))
  refine sz rfl rfl rfl (sz rfl rfl rfl (sz rfl rfl rfl (sz rfl rfl rfl (sd rfl (yl_pick_f rfl rfl rfl rfl (sd rfl (yl_move rfl rfl (sz rfl rfl rfl (sz rfl rfl rfl (sz rfl rfl rfl ?_))))))))))
  refine sd rfl (yl_pick_f rfl rfl rfl rfl (sd rfl (yl_assign rfl rfl (dn (CW.ret (rr rfl (.cons rfl .nil) ?_))))))
  have hM56 : (s_GoodShift p_c) = (false) := by simp only [s_GoodShift, hb21, cL]
  rw [hM56]
  exact ⟨rfl, (Ex.trans (Ex.trans (Ex.refl w) hE14) hE20)⟩
theorem c_s_GoodFill {w : World} (p_f : DFill) (o1 : ok_Fill p_f) : Cal Tryz.prog 76 #[.agg #[.string (bs (p_f.Last)), .bool (p_f.Over)]] w fun v w' => v = .bool ((s_GoodFill p_f)) ∧ Ex w w' := by
 refine Cal.of func76 rfl ntmps76 rfl (CW.seq (CW.region (sd rfl (yl_box rfl rfl rfl ?_))))
 intro b3 w4 hs5 hz6 hB7 hE8
 refine sd rfl (yl_assign rfl rfl (dn (CW.seq (CW.region (sd rfl (yl_fieldAddr fd59_0 rfl rfl (sd rfl (yl_load1 ty9 rfl rfl ((hB7.cell 0).trans rfl) (sd rfl (yl_seql (a := p_f.Last) (b := ([] : Str)) rfl rfl rfl (sd rfl (yl_move rfl rfl ?_))))))))))))
 refine bcase (p_f.Last == ([] : Str)) (fun hb9 => ?_) (fun hb9 => ?_)
 ·refine sz rfl rfl hb9 (sz rfl rfl hb9 (sz rfl rfl hb9 (sd rfl (yl_pick_t rfl rfl hb9 rfl (sd rfl (yl_assign rfl rfl (dn (CW.ret (rr rfl (.cons rfl .nil) ?_)))))))))
  have hM10 : (s_GoodFill p_f) = (true) := by simp only [s_GoodFill, hb9, cL]
  rw [hM10]
  exact ⟨rfl, (Ex.trans (Ex.refl w) hE8)⟩
 ·refine sy rfl rfl hb9 (yl_fieldAddr fd59_0 rfl rfl (sy rfl rfl hb9 (yl_load1 ty9 rfl rfl ((hB7.cell 0).trans rfl) (sy rfl rfl hb9 (yl_call en107 rfl (oc rfl oz) (Cal.mono (c_s_l3Key p_f.Last o1) ?_))))))
  rintro v13 w12 ⟨rfl, hE14⟩
  refine sd rfl (yl_pick_f rfl rfl hb9 rfl (sd rfl (yl_assign rfl rfl (dn (CW.ret (rr rfl (.cons rfl .nil) ?_))))))
  have hM15 : (s_GoodFill p_f) = ((s_l3Key p_f.Last)) := by simp only [s_GoodFill, hb9, cL]
  rw [hM15]
  exact ⟨rfl, (Ex.trans (Ex.trans (Ex.refl w) hE8) hE14)⟩
theorem c_s_GoodWork {A1 : Option Addr} {c1 : Nat} {A2 : Option Addr} {c2 : Nat} {A3 : Option Addr} {c3 : Nat} {w : World} (p_w : DWork) (h1 : RdS w (Iv 0 w.heap.size) R_Table 3 A1 p_w.Shift.Ways.length c1 p_w.Shift.Ways) (h2 : RdS w (Iv 0 w.heap.size) (RF e_Int) 1 A2 p_w.Shift.At.length c2 p_w.Shift.At) (h3 : RdS w (Iv 0 w.heap.size) (RF e_Write) 3 A3 p_w.Shift.Store.length c3 p_w.Shift.Store) (o4 : ok_Work p_w) : Cal Tryz.prog 45 #[.agg #[.string (bs (p_w.Shift.Name)), .slice A1 p_w.Shift.Ways.length c1, .slice A2 p_w.Shift.At.length c2, .slice A3 p_w.Shift.Store.length c3, .string (bs (p_w.Up.Last)), .bool (p_w.Up.Over), .string (bs (p_w.Down.Last)), .bool (p_w.Down.Over)]] w fun v w' => v = .bool ((s_GoodWork p_w)) ∧ Ex w w' := by
 refine Cal.of func45 rfl ntmps45 rfl (CW.seq (CW.region (sd rfl (yl_box rfl rfl rfl ?_))))
 intro b11 w12 hs13 hz14 hB15 hE16
 refine sd rfl (yl_assign rfl rfl (dn (CW.seq (CW.region (sd rfl (yl_fieldAddr fd61_0 rfl rfl (sd rfl (yl_loadN ty58 rfl rfl (hB15.cells (n := 4) rfl) rfl (sd rfl (yl_call en75 rfl (oc rfl oz) (Cal.mono (c_s_GoodShift p_w.Shift (RdS.up (RdS.ex good_Table h1 hE16) good_Table) (RdS.up (RdS.ex good_Int h2 hE16) good_Int) (RdS.up (RdS.ex good_Write h3 hE16) good_Write) o4.1) ?_)))))))))))
 rintro v21 w20 ⟨rfl, hE22⟩
 refine sd rfl (yl_move rfl rfl (bcase (s_GoodShift p_w.Shift) (fun hb23 => ?_) (fun hb23 => ?_)))
 ·obtain ⟨hb23p0, hb23p1⟩ := f_s_GoodShift hb23
  refine sy rfl rfl hb23 (yl_fieldAddr fd61_1 rfl rfl ?_)
  have q24 := Box.ex hB15 hE22
  refine sy rfl rfl hb23 (yl_loadN ty59 rfl rfl (q24.cells (n := 2) rfl) rfl (sy rfl rfl hb23 (yl_call en76 rfl (oc rfl oz) (Cal.mono (c_s_GoodFill p_w.Up o4.2.1) ?_))))
  rintro v26 w25 ⟨rfl, hE27⟩
  refine sd rfl (yl_pick_t rfl rfl hb23 rfl (sd rfl (yl_move rfl rfl (bcase (s_GoodFill p_w.Up) (fun hb28 => ?_) (fun hb28 => ?_)))))
  ·refine sy rfl rfl hb28 (yl_fieldAddr fd61_2 rfl rfl (sy rfl rfl hb28 (yl_loadN ty59 rfl rfl ((Box.ex q24 hE27).cells (n := 2) rfl) rfl (sy rfl rfl hb28 (yl_call en76 rfl (oc rfl oz) (Cal.mono (c_s_GoodFill p_w.Down o4.2.2) ?_))))))
   rintro v31 w30 ⟨rfl, hE32⟩
   refine sd rfl (yl_pick_t rfl rfl hb28 rfl (sd rfl (yl_assign rfl rfl (dn (CW.ret (rr rfl (.cons rfl .nil) ?_))))))
   have hM33 : (s_GoodWork p_w) = ((s_GoodFill p_w.Down)) := by simp only [s_GoodWork, hb23, hb28, cL]
   rw [hM33]
   exact ⟨rfl, (Ex.trans (Ex.trans (Ex.trans (Ex.trans (Ex.refl w) hE16) hE22) hE27) hE32)⟩
  ·refine sz rfl rfl hb28 (sz rfl rfl hb28 (sz rfl rfl hb28 (sd rfl (yl_pick_f rfl rfl hb28 rfl (sd rfl (yl_assign rfl rfl (dn (CW.ret (rr rfl (.cons rfl .nil) ?_)))))))))
   have hM38 : (s_GoodWork p_w) = (false) := by simp only [s_GoodWork, hb23, hb28, cL]
   rw [hM38]
   exact ⟨rfl, (Ex.trans (Ex.trans (Ex.trans (Ex.refl w) hE16) hE22) hE27)⟩
 ·refine sz rfl rfl hb23 (sz rfl rfl hb23 (sz rfl rfl hb23 (sd rfl (yl_pick_f rfl rfl hb23 rfl (sd rfl (yl_move rfl rfl (sz rfl rfl rfl (sz rfl rfl rfl (sz rfl rfl rfl (sd rfl (yl_pick_f rfl rfl rfl rfl ?_)))))))))))
  refine sd rfl (yl_assign rfl rfl (dn (CW.ret (rr rfl (.cons rfl .nil) ?_))))
  have hM42 : (s_GoodWork p_w) = (false) := by simp only [s_GoodWork, hb23, cL]
  rw [hM42]
  exact ⟨rfl, (Ex.trans (Ex.trans (Ex.refl w) hE16) hE22)⟩
theorem c_s_l24Join {A1 : Option Addr} {c1 : Nat} {w : World} (p_l : List Str) (p_by : Str) (h1 : RdS w (Iv 0 w.heap.size) (RF e_Str) 1 A1 p_l.length c1 p_l) (o2 : (okL okS) p_l) (o3 : okS p_by) : Cal Tryz.prog 109 #[.slice A1 p_l.length c1, .string (bs (p_by))] w fun v w' => v = .string (bs ((s_l24Join p_l p_by))) ∧ Ex w w' := by
 have hol4 := o2.1
 have hol5 : p_by.length ≤ 1073741824 := o3
 refine Cal.of func109 rfl ntmps109 rfl (CW.seq (CW.region (sd rfl (yl_assign rfl rfl (dn (CW.seq (CW.region (sd rfl (yl_assign rfl rfl ?_)))))))))
 refine dn (CW.seq (CW.seq (CW.region (sd rfl (yl_move rfl rfl (sd rfl (yl_len un22 rfl rfl (sd rfl (yl_move rfl rfl (SeqR.done ?_))))))))))
 refine tn (CW.block (CW.loop (fun m15 L16 w17 => ∃ (k6 : Nat) (x14 : Str), m15 = p_l.length - k6 ∧ k6 ≤ p_l.length ∧ w.heap.size ≤ w17.heap.size ∧ lkp L16 1 = some (.string (bs (p_by))) ∧ lkp L16 5 = some (.string (bs (x14))) ∧ lkp L16 8 = some (.slice A1 p_l.length c1) ∧ lkp L16 9 = some (.int .i64 ((p_l.length : Int))) ∧ lkp L16 10 = some (.int .i64 ((k6 : Int))) ∧ RdS w17 (Iv 0 w.heap.size) (RF e_Str) 1 A1 p_l.length c1 p_l ∧ Ex w w17 ∧ x14.length ≤ 0 + 2147483648 * (k6 - 0) ∧ loopM (B_s_l24Join_0 p_l p_by) (p_l.length - k6) k6 (x14) = loopM (B_s_l24Join_0 p_l p_by) (p_l.length - 0) 0 (([] : Str))) (p_l.length - 0) ?_ ?_))
 ·exact ⟨0, ([] : Str), rfl, (by omega), Nat.le_refl _, rfl, rfl, rfl, rfl, rfl, h1, (Ex.refl w), (by first | (simp; done) | (first | omega | (simp only [List.length_append, List.length_cons, List.length_nil, List.length_set, toS_length]; omega))), rfl⟩
 ·rintro m18 L19 w20 ⟨k6, x14, rfl, hk21, hsz23, hl24, hl25, hl26, hl27, hl28, hf29, hf30, hln31, hI22⟩
  refine CW.sub (Sub.cons hl24 (Sub.cons hl25 (Sub.cons hl26 (Sub.cons hl27 (Sub.cons hl28 (Sub.nil _)))))) ?_
  have hf30z := Ex.size hf30
  have hbg32 := RdS.big hf29
  rcases Nat.lt_or_ge k6 p_l.length with hlt33 | hlt33
  ·refine CW.seq (CW.region (sd rfl (yl_lss rfl rfl rfl (dn (CW.seq (CW.cond_t rfl (lt_t hlt33) (CW.skip (tn ?_))))))))
   refine CW.seq (CW.block (CW.seq (CW.region (sd rfl (yl_move rfl rfl ?_)))))
   obtain ⟨eb34, eo34, _, eA34, _, ebl34, _, eR34, eC34⟩ := RdS.aD hf29 d_Str (i := k6)
   obtain rfl := eR34
   have eC34 : Cells w20 eb34 (eo34 + k6 * 1) [.string (bs ((p_l.getD k6 d_Str)))] := eC34
   refine sd rfl (yl_ixN un22 ty9 rfl rfl rfl eA34 (sd rfl (yl_load1 ty9 rfl rfl (eC34 0 _ rfl) (sd rfl (yl_assign rfl rfl (sd rfl (yl_assign rfl rfl (dn (CW.seq (CW.seq (CW.region ?_)))))))))))
   refine sd rfl (yl_move rfl rfl (sd rfl (yl_gtr rfl rfl rfl (dn (bcase (decide (0 < (k6 : Int))) (fun hb35 => ?_) (fun hb35 => ?_))))))
   ·have hb35p := dec_t hb35
    refine CW.cond_t rfl hb35 (CW.region (sd rfl (yl_move rfl rfl (sd rfl (yl_move rfl rfl ?_)))))
    have hol36 : p_by.length ≤ 1073741824 := o3
    refine sd rfl (yl_sadd (a := x14) (b := p_by) rfl rfl rfl (by first | omega | (simp only [List.length_append, List.length_cons, List.length_nil, List.length_take, List.length_drop, toS_length]; omega)) (sd rfl (yl_assign rfl rfl (dn (CW.region (sd rfl (yl_move rfl rfl (sd rfl (yl_move rfl rfl ?_)))))))))
    have hol37 : p_by.length ≤ 1073741824 := o3
    have hol38 : (p_l.getD k6 d_Str).length ≤ 1073741824 := (okL.getD o2 ok_d_Str _)
    refine sd rfl (yl_sadd (a := (x14 ++ p_by)) (b := (p_l.getD k6 d_Str)) rfl rfl rfl (by first | omega | (simp only [List.length_append, List.length_cons, List.length_nil, List.length_take, List.length_drop, toS_length]; omega)) (sd rfl (yl_assign rfl rfl (SeqR.done (bn (tn (CW.region (sd rfl (yl_inc rfl rfl rfl (by omega) (sd rfl (yl_move rfl rfl (SeqR.done ?_))))))))))))
    refine tn ?_
    have hB39 : B_s_l24Join_0 p_l p_by k6 (x14) = .cont ((x14 ++ p_by) ++ (p_l.getD k6 d_Str)) := by simp only [B_s_l24Join_0, hb35, cL]
    exact ⟨p_l.length - (k6 + 1), by omega, k6 + 1, (x14 ++ p_by) ++ (p_l.getD k6 d_Str), rfl, hlt33, (by omega), rfl, rfl, rfl, rfl, rfl, hf29, hf30, (by first | omega | (simp only [List.length_append, List.length_cons, List.length_nil, List.length_set, toS_length]; omega)), (loopM.cont hlt33 hB39).symm.trans hI22⟩
   ·have hb35p := dec_f hb35
    refine CW.cond_f rfl hb35 (CW.skip (tn (CW.region (sd rfl (yl_move rfl rfl (sd rfl (yl_move rfl rfl ?_)))))))
    have hol40 : (p_l.getD k6 d_Str).length ≤ 1073741824 := (okL.getD o2 ok_d_Str _)
    refine sd rfl (yl_sadd (a := x14) (b := (p_l.getD k6 d_Str)) rfl rfl rfl (by first | omega | (simp only [List.length_append, List.length_cons, List.length_nil, List.length_take, List.length_drop, toS_length]; omega)) (sd rfl (yl_assign rfl rfl (SeqR.done (bn (tn (CW.region (sd rfl (yl_inc rfl rfl rfl (by omega) (sd rfl (yl_move rfl rfl (SeqR.done ?_))))))))))))
    refine tn ?_
    have hB41 : B_s_l24Join_0 p_l p_by k6 (x14) = .cont (x14 ++ (p_l.getD k6 d_Str)) := by simp only [B_s_l24Join_0, hb35, cL]
    exact ⟨p_l.length - (k6 + 1), by omega, k6 + 1, x14 ++ (p_l.getD k6 d_Str), rfl, hlt33, (by omega), rfl, rfl, rfl, rfl, rfl, hf29, hf30, (by first | omega | (simp only [List.length_append, List.length_cons, List.length_nil, List.length_set, toS_length]; omega)), (loopM.cont hlt33 hB41).symm.trans hI22⟩
  ·refine CW.seq (CW.region (sd rfl (yl_lss rfl rfl rfl (dn (CW.seq (CW.cond_f rfl (lt_f hlt33) (CW.exit (tx ?_))))))))
   refine tx ?_
   have hL42 : loopM (B_s_l24Join_0 p_l p_by) (p_l.length - 0) 0 (([] : Str)) = .done (x14) := hI22.symm.trans (loopM.stop hlt33)
   refine bx (tn (CW.seq (CW.region (sd rfl (yl_move rfl rfl (sd rfl (yl_assign rfl rfl (dn (CW.ret ?_)))))))))
   refine rr rfl (.cons rfl .nil) ?_
   have hM43 : (s_l24Join p_l p_by) = (x14) := by simp only [s_l24Join, hL42, cL]
   rw [hM43]
   exact ⟨rfl, hf30⟩
theorem c_s_l25Write {A1 : Option Addr} {c1 : Nat} {A2 : Option Addr} {c2 : Nat} {A4 : Option Addr} {c4 : Nat} {w : World} (p_t : DTable) (p_r : DRow) (h1 : RdS w (Iv 0 w.heap.size) (RF e_Str) 1 A1 p_t.Cols.length c1 p_t.Cols) (h2 : RdS w (Iv 0 w.heap.size) (RF e_Idx) 3 A2 p_t.Idxs.length c2 p_t.Idxs) (h4 : RdS w (Iv 0 w.heap.size) (RF e_Str) 1 A4 p_r.Vals.length c4 p_r.Vals) (o3 : ok_Table p_t) (o5 : ok_Row p_r) (pre0 : 0 < p_r.Vals.length) : Cal Tryz.prog 78 #[.agg #[.string (bs (p_t.Name)), .slice A1 p_t.Cols.length c1, .slice A2 p_t.Idxs.length c2], .agg #[.slice A4 p_r.Vals.length c4]] w fun v w' => v = .agg #[.string (bs ((s_l25Write p_t p_r).Key)), .string (bs ((s_l25Write p_t p_r).Val)), .bool ((s_l25Write p_t p_r).Gone)] ∧ Ex w w' := by
 have hol6 : p_t.Name.length ≤ 1073741824 := o3.1
 have hol7 := o3.2.1.1
 have hol8 := o3.2.2.1
 have hol9 := o5.1
 refine Cal.of func78 rfl ntmps78 rfl (CW.seq (CW.region (sd rfl (yl_box rfl rfl rfl ?_))))
 intro b10 w11 hs12 hz13 hB14 hE15
 refine sd rfl (yl_box rfl rfl rfl ?_)
 intro b16 w17 hs18 hz19 hB20 hE21
 refine sd rfl (yl_alloc ty75 (cs := [.string (bs (([] : Str))), .string (bs (([] : Str))), .bool (false)]) rfl rfl ?_)
 intro b22 w23 hs24 hz25 hB26 hE27
 refine dn (CW.seq ?_)
 have hol30 : p_t.Name.length ≤ 1073741824 := o3.1
 have q31 := Box.ex hB20 hE27
 have q34 := RdS.ex good_Str (RdS.ex good_Str (RdS.ex good_Str h4 hE15) hE21) hE27
 obtain ⟨eb35, eo35, _, eA35, _, ebl35, _, eR35, eC35⟩ := RdS.aD q34 d_Str (i := 0)
 obtain rfl := eR35
 have eC35 : Cells w23 eb35 (eo35 + 0 * 1) [.string (bs ((p_r.Vals.getD 0 d_Str)))] := eC35
 have hol36 : p_t.Name.length ≤ 1073741824 := o3.1
 have hol37 : (p_r.Vals.getD 0 d_Str).length ≤ 1073741824 := (okL.getD o5 ok_d_Str _)
 obtain ⟨A38, c39, he42, h41⟩ := RdS.sl (RdS.drop q34 (k := 1) (by omega))
 have hrc43 := (q34).2.1
 refine CW.drawsI 12 (vgetI [DetI (.pointer (some ⟨b10, 0 + 0, none⟩)), DetI (.string (bs (p_t.Name))), DetI (.string (bs (p_t.Name ++ ([47] : Str)))), DetI (.pointer (some ⟨b16, 0 + 0, none⟩)), DetI (.slice A4 p_r.Vals.length c4), DetI (.pointer (some ⟨eb35, eo35 + 0 * 1, none⟩)), DetI (.string (bs ((p_r.Vals.getD 0 d_Str)))), DetI (.string (bs ((p_t.Name ++ ([47] : Str)) ++ (p_r.Vals.getD 0 d_Str)))), DetI (.pointer (some ⟨b16, 0 + 0, none⟩)), DetI (.slice A4 p_r.Vals.length c4), fun lo hi v wq => ∃ A38 c39, v = .slice A38 ((p_r.Vals.drop 1).length) c39 ∧ RdS wq (Iv 0 w.heap.size) (RF e_Str) 1 A38 (p_r.Vals.drop 1).length c39 (p_r.Vals.drop 1), DetI (.string (bs ((s_l24Join (p_r.Vals.drop 1) ([44] : Str)))))]) Tryz.follows rfl rfl rfl rfl rfl rfl (vgetI_stable ⟨StableI.det _, StableI.det _, StableI.det _, StableI.det _, StableI.det _, StableI.det _, StableI.det _, StableI.det _, StableI.det _, StableI.det _, (fun _ _ _ _ _ ⟨A38, c39, hv, h44⟩ e => ⟨A38, c39, hv, RdS.ex good_Str h44 e⟩), StableI.det _, trivial⟩) ⟨?_, ?_, ?_, ?_, ?_, ?_, ?_, ?_, ?_, ?_, ?_, ?_, trivial⟩ ?_
 ·exact oI rfl fun h => yl_fieldAddr fd34_0 rfl (h.old 2 _ rfl rfl) kI
 ·exact oI rfl fun h => yl_load1 ty9 rfl (h.dt 0 5 rfl rfl rfl) (((Box.ex (Box.ex (Box.ex hB14 hE21) hE27) h.ex).cell 0).trans rfl) kI
 ·intro L57 w58 hi59
  have hE60 := hi59.ex
  have hE60z := Ex.size hE60
  have hol62 : p_t.Name.length ≤ 1073741824 := o3.1
  exact os rfl ((yl_sadd (a := p_t.Name) (b := ([47] : Str)) rfl (hi59.dt 1 6 rfl rfl rfl) rfl (by first | omega | (simp only [List.length_append, List.length_cons, List.length_nil, List.length_take, List.length_drop, toS_length]; omega)) kI))
 ·exact oI rfl fun h => yl_fieldAddr fd80_0 rfl (h.old 3 _ rfl rfl) kI
 ·exact oI rfl fun h => yl_load1 ty22 rfl (h.dt 3 8 rfl rfl rfl) (((Box.ex q31 h.ex).cell 0).trans rfl) kI
 ·intro L74 w75 hi76
  have hE77 := hi76.ex
  have hE77z := Ex.size hE77
  exact os rfl ((yl_ixN un22 ty9 rfl (hi76.dt 4 9 rfl rfl rfl) rfl eA35 kI))
 ·exact oI rfl fun h => yl_load1 ty9 rfl (h.dt 5 10 rfl rfl rfl) ((Cells.ex eC35 h.ex) 0 _ rfl) kI
 ·intro L85 w86 hi87
  have hE88 := hi87.ex
  have hE88z := Ex.size hE88
  have hol91 : p_t.Name.length ≤ 1073741824 := o3.1
  have hol92 : (p_r.Vals.getD 0 d_Str).length ≤ 1073741824 := (okL.getD o5 ok_d_Str _)
  exact os rfl ((yl_sadd (a := (p_t.Name ++ ([47] : Str))) (b := (p_r.Vals.getD 0 d_Str)) rfl (hi87.dt 2 7 rfl rfl rfl) (hi87.dt 6 11 rfl rfl rfl) (by first | omega | (simp only [List.length_append, List.length_cons, List.length_nil, List.length_take, List.length_drop, toS_length]; omega)) kI))
 ·exact oI rfl fun h => yl_fieldAddr fd80_0 rfl (h.old 3 _ rfl rfl) kI
 ·exact oI rfl fun h => yl_load1 ty22 rfl (h.dt 8 13 rfl rfl rfl) (((Box.ex q31 h.ex).cell 0).trans rfl) kI
 ·intro L104 w105 hi106
  have hE107 := hi106.ex
  have hE107z := Ex.size hE107
  have q109 := RdS.ex good_Str q34 hE107
  obtain ⟨A110, c111, he114, h113⟩ := RdS.sl (RdS.drop q109 (k := 1) (by omega))
  have hrc115 := (q109).2.1
  exact os rfl ((yl_sliceR (kh := .i64) (l := 1) (h := p_r.Vals.length) un22 ty9 rfl (hi106.dt 9 14 rfl rfl rfl) (.inr ⟨_, rfl, rfl⟩) (.inl ⟨rfl, rfl⟩) (by omega) (by omega) he114 ⟨fun _ _ => ⟨A110, c111, rfl, h113⟩, rfl⟩))
 ·intro L116 w117 hi118
  obtain ⟨lo121, hh122, _, hx120, hr123, hr124, hr125, A38_126, c39_127, rfl, h128⟩ := hi118.dep 10 15 rfl rfl
  exact OpR.op' rfl (yl_call en109 rfl (oc hx120 (oc rfl oz)) (Cal.mono (c_s_l24Join (p_r.Vals.drop 1) ([44] : Str) (RdS.up h128 good_Str) (okL.drop o5 _) (okS.lit rfl)) fun _ _ h => h))
 ·intro fl135 fh136 L132 w133 hp134
  have hE137 := hp134.ex
  have hE137z := Ex.size hE137
  have hx138 := hp134.old 4 _ rfl rfl
  refine sd rfl (yl_build (cs := [.string (bs ((p_t.Name ++ ([47] : Str)) ++ (p_r.Vals.getD 0 d_Str))), .string (bs ((s_l24Join (p_r.Vals.drop 1) ([44] : Str)))), .bool (false)]) rfl (oc (hp134.nt 7 12 rfl rfl rfl) (oc (hp134.nt 11 16 rfl rfl rfl) oz)) (by kernel_rfl) (SeqR.u rfl rfl (yl_store (vs := [.string (bs ((p_t.Name ++ ([47] : Str)) ++ (p_r.Vals.getD 0 d_Str))), .string (bs ((s_l24Join (p_r.Vals.drop 1) ([44] : Str)))), .bool (false)]) ty75 rfl hx138 rfl rfl rfl rfl (Box.ex hB26 hE137) (Nat.le_of_ble_eq_true rfl) ?_)))
  intro w142 hB143 hO144
  have hB143 : Box w142 b22 75 [.string (bs ((p_t.Name ++ ([47] : Str)) ++ (p_r.Vals.getD 0 d_Str))), .string (bs ((s_l24Join (p_r.Vals.drop 1) ([44] : Str)))), .bool (false)] := hB143
  have hO144z := hO144.size
  refine dn (CW.sub (Sub.cons (d := 4) hx138 (Sub.nil _)) (CW.ret (rr rfl (.cons ⟨_, rfl, run_loadN ty75 (cs := [.string (bs ((p_t.Name ++ ([47] : Str)) ++ (p_r.Vals.getD 0 d_Str))), .string (bs ((s_l24Join (p_r.Vals.drop 1) ([44] : Str)))), .bool (false)]) rfl (hB143.cells (n := 3) rfl)⟩ .nil) ?_)))
  have hM145 : (s_l25Write p_t p_r) = ((⟨(p_t.Name ++ ([47] : Str)) ++ (p_r.Vals.getD 0 d_Str), (s_l24Join (p_r.Vals.drop 1) ([44] : Str)), false⟩ : DWrite)) := by simp only [s_l25Write, cL]
  rw [hM145]
  exact ⟨rfl, (Below.only (Ex.trans (Ex.trans (Ex.trans (Ex.trans (Ex.refl w) hE15) hE21) hE27) hE137) hO144 (by omega))⟩
theorem c_s_l1Split {w : World} (p_s : Str) (p_b : Int) (o1 : okS p_s) : Cal Tryz.prog 95 #[.string (bs (p_s)), .int .u8 (p_b)] w fun v w' => ∃ A_1 c_1 lo_1 hi_1, v = .slice A_1 ((s_l1Split p_s p_b).length) c_1 ∧ OwnL w' lo_1 hi_1 9 1 (RF e_Str) A_1 ((s_l1Split p_s p_b).length) c_1 (s_l1Split p_s p_b) ∧ (w.heap.size ≤ lo_1 ∧ lo_1 ≤ hi_1 ∧ hi_1 ≤ w'.heap.size) ∧ Ex w w' := by
 have hol2 : p_s.length ≤ 1073741824 := o1
 refine Cal.of func95 rfl ntmps95 rfl (CW.seq (CW.region (sd rfl (yl_assign rfl rfl (dn (CW.seq (CW.region (sd rfl (yl_assign rfl rfl ?_)))))))))
 refine dn (CW.seq (CW.region (sd rfl (yl_assign rfl rfl (dn (CW.seq (CW.seq ?_)))))))
 refine CW.region (sd rfl (yl_assign rfl rfl (dn (CW.block (CW.loop (fun m26 L27 w28 => ∃ (k3 : Nat) (x21 : List Str) (x25 : Int) (A22 : Option Addr) (c23 : Nat) (u24 : Nat), m26 = p_s.length - k3 ∧ k3 ≤ p_s.length ∧ w.heap.size ≤ w28.heap.size ∧ lkp L27 0 = some (.string (bs (p_s))) ∧ lkp L27 1 = some (.int .u8 (p_b)) ∧ lkp L27 5 = some (.slice A22 x21.length c23) ∧ lkp L27 6 = some (.int .i64 (x25)) ∧ lkp L27 7 = some (.int .i64 ((k3 : Int))) ∧ OwnL w28 w.heap.size u24 9 1 (RF e_Str) A22 x21.length c23 x21 ∧ Ex w w28 ∧ (w.heap.size ≤ u24 ∧ u24 ≤ w28.heap.size) ∧ x21.length ≤ 0 + 1 * (k3 - 0) ∧ (∀ y ∈ x21, okS y) ∧ 0 ≤ x25 ∧ x25 ≤ (k3 : Int) ∧ loopM (B_s_l1Split_0 p_s p_b) (p_s.length - k3) k3 (x21, x25) = loopM (B_s_l1Split_0 p_s p_b) (p_s.length - 0) 0 (([] : List Str), 0)) (p_s.length - 0) ?_ ?_)))))
 ·exact ⟨0, ([] : List Str), 0, none, 0, w.heap.size, rfl, (by omega), Nat.le_refl _, rfl, rfl, rfl, rfl, rfl, (OwnL.nil w w.heap.size w.heap.size 9 1 (RF e_Str)), (Ex.refl w), (by omega), (by first | (simp; done) | (first | omega | (simp only [List.length_append, List.length_cons, List.length_nil, List.length_set, toS_length]; omega))), okE.nil, (by first | omega | assumption | (simp only [wI] at *; omega)), (by first | omega | assumption | (simp only [wI] at *; omega)), rfl⟩
 ·rintro m29 L30 w31 ⟨k3, x21, x25, A22, c23, u24, rfl, hk32, hsz34, hl35, hl36, hl37, hl38, hl39, hf40, hf41, hu42, hln43, hok44, hv45, hv46, hI33⟩
  refine CW.sub (Sub.cons hl35 (Sub.cons hl36 (Sub.cons hl37 (Sub.cons hl38 (Sub.cons hl39 (Sub.nil _)))))) ?_
  have hf41z := Ex.size hf41
  have hbg47 : p_s.length ≤ 1073741824 := o1
  rcases Nat.lt_or_ge k3 p_s.length with hlt48 | hlt48
  ·refine CW.seq (CW.seq (CW.region (sd rfl (yl_move rfl rfl (sd rfl (yl_move rfl rfl (sd rfl (yl_slen un9 (a := p_s) rfl rfl (sd rfl (yl_lss rfl rfl rfl (dn ?_)))))))))))
   refine CW.cond_t rfl (lt_t hlt48) (CW.skip (tn (CW.seq (CW.block (CW.seq (CW.region (sd rfl (yl_move rfl rfl (sd rfl (yl_move rfl rfl ?_))))))))))
   refine sd rfl (yl_sindexN un9 (a := p_s) rfl rfl rfl (by first | omega | assumption | (simp only [wI] at *; omega)) (sd rfl (yl_move rfl rfl (sd rfl (yl_eql rfl rfl rfl (dn (bcase (decide (((p_s.getD k3 0).toNat : Int) = p_b)) (fun hb49 => ?_) (fun hb49 => ?_))))))))
   ·have hb49p := dec_t hb49
    refine CW.cond_t rfl hb49 (CW.seq (CW.region (sd rfl (yl_move rfl rfl (sd rfl (yl_move rfl rfl (sd rfl (yl_move rfl rfl (sd rfl (yl_move rfl rfl (sd rfl (yl_sslice_lh un9 (a := p_s) (l := (x25).toNat) (h := k3) rfl rfl (toNat_op rfl (by omega)) rfl (by omega) (by omega) (sd rfl (yl_buildSlice (cs := [.string (bs (((p_s.take k3).drop ((x25).toNat))))]) un22 ty9 (by decide) rfl (oc rfl oz) (by kernel_rfl) ?_))))))))))))))
    intro b50 w51 hs52 hz53 hB54 hE55
    have hO56 : OwnL w51 b50 (b50 + 1) 9 1 (RF e_Str) (some ⟨b50, 0, none⟩) 1 1 ([((p_s.take k3).drop ((x25).toNat))] : List Str) := OwnL.of_box (S := fun _ => False) hB54 (Nat.le_refl _) (Nat.lt_succ_self _) (EncL.cons (c := [.string (bs (((p_s.take k3).drop ((x25).toNat))))]) rfl rfl EncL.nil) (Nat.le_of_ble_eq_true rfl) (fun h => h) (fun _ h => False.elim h)
    refine sd rfl (yl_appendL (S := (fun _ => False)) (lo := w.heap.size) (hi := u24) (xs := x21) (ys := ([((p_s.take k3).drop ((x25).toNat))] : List Str)) good_Str un22 ty9 rfl (Nat.le_of_ble_eq_true rfl) rfl rfl rfl (OwnL.ex good_Str hf40 hE55) (EncL.cons (c := [.string (bs (((p_s.take k3).drop ((x25).toNat))))]) rfl rfl EncL.nil) (Or.inr ⟨_, _, rfl, rfl, hB54.cells (o := 0) (n := 1) rfl⟩) rfl (by first | omega | (simp only [List.length_append, List.length_cons, List.length_nil, List.length_take, List.length_drop, List.length_replicate, List.length_set, toS_length]; omega)) (by first | omega | (simp only [List.length_append, List.length_cons, List.length_nil, List.length_take, List.length_drop, List.length_replicate, List.length_set, toS_length]; omega)) (by omega) (by omega) (fun _ h _ => False.elim h) (by omega) ?_)
    intro A58 c59 w60 row61 hO62 hG63 hrg64
    have hG63z := hG63.size
    refine sd rfl (yl_assign rfl rfl (dn (CW.region (sd rfl (yl_move rfl rfl (sd rfl (yl_inc rfl rfl rfl (by omega) (sd rfl (yl_assign rfl rfl (SeqR.done (bn ?_)))))))))))
    refine tn (CW.region (sd rfl (yl_move rfl rfl (sd rfl (yl_inc rfl rfl rfl (by omega) (sd rfl (yl_assign rfl rfl (dn ?_))))))))
    have hB65 : B_s_l1Split_0 p_s p_b k3 (x21, x25) = .cont ((x21 ++ ([((p_s.take k3).drop ((x25).toNat))] : List Str)), ((k3 + 1 : Nat) : Int)) := by simp only [B_s_l1Split_0, hb49, cL]
    exact ⟨p_s.length - (k3 + 1), by omega, k3 + 1, (x21 ++ ([((p_s.take k3).drop ((x25).toNat))] : List Str)), ((k3 + 1 : Nat) : Int), A58, c59, w60.heap.size, rfl, hlt48, (by omega), rfl, rfl, rfl, rfl, rfl, hO62, (Below.grown (Ex.trans hf41 hE55) hG63 (by omega) (fun k hk => by have := hrg64 k hk; omega)), (by omega), (by first | omega | (simp only [List.length_append, List.length_cons, List.length_nil, List.length_set, toS_length]; omega)), (okE.append hok44 ((okL.mk (Nat.le_of_ble_eq_true rfl) (okE.cons (okS.drop (okS.take o1 _) _) okE.nil))).2), (by first | omega | assumption | (simp only [wI] at *; omega)), (by first | omega | assumption | (simp only [wI] at *; omega)), (loopM.cont hlt48 hB65).symm.trans hI33⟩
   ·have hb49p := dec_f hb49
    refine CW.cond_f rfl hb49 (CW.skip (bn (tn (CW.region (sd rfl (yl_move rfl rfl (sd rfl (yl_inc rfl rfl rfl (by omega) (sd rfl (yl_assign rfl rfl (SeqR.done ?_)))))))))))
    refine tn ?_
    have hB68 : B_s_l1Split_0 p_s p_b k3 (x21, x25) = .cont (x21, x25) := by simp only [B_s_l1Split_0, hb49, cL]
    exact ⟨p_s.length - (k3 + 1), by omega, k3 + 1, x21, x25, A22, c23, u24, rfl, hlt48, (by omega), rfl, rfl, rfl, rfl, rfl, hf40, hf41, (by omega), (by first | omega | (simp only [List.length_append, List.length_cons, List.length_nil, List.length_set, toS_length]; omega)), hok44, (by first | omega | assumption | (simp only [wI] at *; omega)), (by first | omega | assumption | (simp only [wI] at *; omega)), (loopM.cont hlt48 hB68).symm.trans hI33⟩
  ·refine CW.seq (CW.seq (CW.region (sd rfl (yl_move rfl rfl (sd rfl (yl_move rfl rfl (sd rfl (yl_slen un9 (a := p_s) rfl rfl (sd rfl (yl_lss rfl rfl rfl (dn ?_)))))))))))
   refine CW.cond_f rfl (lt_f hlt48) (CW.exit (tx (tx ?_)))
   have hL69 : loopM (B_s_l1Split_0 p_s p_b) (p_s.length - 0) 0 (([] : List Str), 0) = .done (x21, x25) := hI33.symm.trans (loopM.stop hlt48)
   refine bx (tn (CW.seq (CW.region (sd rfl (yl_move rfl rfl (sd rfl (yl_move rfl rfl (sd rfl (yl_move rfl rfl (sd rfl (yl_sslice_lo un9 (a := p_s) (l := (x25).toNat) rfl rfl (toNat_op rfl (by omega)) (by omega) (sd rfl (yl_buildSlice (cs := [.string (bs ((p_s.drop ((x25).toNat))))]) un22 ty9 (by decide) rfl (oc rfl oz) (by kernel_rfl) ?_)))))))))))))
   intro b70 w71 hs72 hz73 hB74 hE75
   have hO76 : OwnL w71 b70 (b70 + 1) 9 1 (RF e_Str) (some ⟨b70, 0, none⟩) 1 1 ([(p_s.drop ((x25).toNat))] : List Str) := OwnL.of_box (S := fun _ => False) hB74 (Nat.le_refl _) (Nat.lt_succ_self _) (EncL.cons (c := [.string (bs ((p_s.drop ((x25).toNat))))]) rfl rfl EncL.nil) (Nat.le_of_ble_eq_true rfl) (fun h => h) (fun _ h => False.elim h)
   refine sd rfl (yl_appendL (S := (fun _ => False)) (lo := w.heap.size) (hi := u24) (xs := x21) (ys := ([(p_s.drop ((x25).toNat))] : List Str)) good_Str un22 ty9 rfl (Nat.le_of_ble_eq_true rfl) rfl rfl rfl (OwnL.ex good_Str hf40 hE75) (EncL.cons (c := [.string (bs ((p_s.drop ((x25).toNat))))]) rfl rfl EncL.nil) (Or.inr ⟨_, _, rfl, rfl, hB74.cells (o := 0) (n := 1) rfl⟩) rfl (by first | omega | (simp only [List.length_append, List.length_cons, List.length_nil, List.length_take, List.length_drop, List.length_replicate, List.length_set, toS_length]; omega)) (by first | omega | (simp only [List.length_append, List.length_cons, List.length_nil, List.length_take, List.length_drop, List.length_replicate, List.length_set, toS_length]; omega)) (by omega) (by omega) (fun _ h _ => False.elim h) (by omega) ?_)
   intro A78 c79 w80 row81 hO82 hG83 hrg84
   have hG83z := hG83.size
   refine sd rfl (yl_assign rfl rfl (dn (CW.ret (rr rfl (.cons rfl .nil) ?_))))
   have hM85 : (s_l1Split p_s p_b) = ((x21 ++ ([(p_s.drop ((x25).toNat))] : List Str))) := by simp only [s_l1Split, hL69, cL]
   rw [hM85]
   exact ⟨A78, c79, w.heap.size, w80.heap.size, rfl, hO82, (by omega), (Below.grown (Ex.trans hf41 hE75) hG83 (by omega) (fun k hk => by have := hrg84 k hk; omega))⟩
theorem c_s_l25Field {w : World} (p_s : Str) (o1 : okS p_s) : Cal Tryz.prog 127 #[.string (bs (p_s))] w fun v w' => v = .bool ((s_l25Field p_s)) ∧ Ex w w' := by
 refine Cal.of func127 rfl ntmps127 rfl (CW.seq (CW.region (sd rfl (yl_assign rfl rfl (dn (CW.seq (CW.region (sd rfl (yl_move rfl rfl ?_)))))))))
 refine sd rfl (yl_slen un9 (a := p_s) rfl rfl (sd rfl (yl_call en61 rfl (oc rfl (oc rfl (oc rfl oz))) (Cal.mono (c_s_l1In (p_s.length : Int) 1 3) ?_))))
 rintro v4 w3 ⟨rfl, hE5⟩
 refine sd rfl (yl_move rfl rfl (bcase (s_l1In (p_s.length : Int) 1 3) (fun hb6 => ?_) (fun hb6 => ?_)))
 ·have hb6p := f_l1In hb6
  refine sy rfl rfl hb6 (yl_move rfl rfl (sy rfl rfl hb6 (yl_call en136 rfl (oc rfl (oc rfl oz)) (Cal.mono (c_s_l3Bytes p_s ([] : Str) o1 (okS.lit rfl)) ?_))))
  rintro v8 w7 ⟨rfl, hE9⟩
  refine sd rfl (yl_pick_t rfl rfl hb6 rfl (sd rfl (yl_assign rfl rfl (dn (CW.ret (rr rfl (.cons rfl .nil) ?_))))))
  have hM10 : (s_l25Field p_s) = ((s_l3Bytes p_s ([] : Str))) := by simp only [s_l25Field, hb6, cL]
  rw [hM10]
  exact ⟨rfl, (Ex.trans (Ex.trans (Ex.refl w) hE5) hE9)⟩
 ·refine sz rfl rfl hb6 (sz rfl rfl hb6 (sd rfl (yl_pick_f rfl rfl hb6 rfl (sd rfl (yl_assign rfl rfl (dn (CW.ret (rr rfl (.cons rfl .nil) ?_))))))))
  have hM13 : (s_l25Field p_s) = (false) := by simp only [s_l25Field, hb6, cL]
  rw [hM13]
  exact ⟨rfl, (Ex.trans (Ex.refl w) hE5)⟩
theorem c_s_l25Good {A1 : Option Addr} {c1 : Nat} {A2 : Option Addr} {c2 : Nat} {A4 : Option Addr} {c4 : Nat} {w : World} (p_t : DTable) (p_r : DRow) (h1 : RdS w (Iv 0 w.heap.size) (RF e_Str) 1 A1 p_t.Cols.length c1 p_t.Cols) (h2 : RdS w (Iv 0 w.heap.size) (RF e_Idx) 3 A2 p_t.Idxs.length c2 p_t.Idxs) (h4 : RdS w (Iv 0 w.heap.size) (RF e_Str) 1 A4 p_r.Vals.length c4 p_r.Vals) (o3 : ok_Table p_t) (o5 : ok_Row p_r) : Cal Tryz.prog 96 #[.agg #[.string (bs (p_t.Name)), .slice A1 p_t.Cols.length c1, .slice A2 p_t.Idxs.length c2], .agg #[.slice A4 p_r.Vals.length c4]] w fun v w' => v = .bool ((s_l25Good p_t p_r)) ∧ Ex w w' := by
 have hol6 : p_t.Name.length ≤ 1073741824 := o3.1
 have hol7 := o3.2.1.1
 have hol8 := o3.2.2.1
 have hol9 := o5.1
 refine Cal.of func96 rfl ntmps96 rfl (CW.seq (CW.region (sd rfl (yl_box rfl rfl rfl ?_))))
 intro b10 w11 hs12 hz13 hB14 hE15
 refine sd rfl (yl_box rfl rfl rfl ?_)
 intro b16 w17 hs18 hz19 hB20 hE21
 refine sd rfl (yl_assign rfl rfl (dn (CW.seq (CW.seq (CW.region (sd rfl (yl_fieldAddr fd80_0 rfl rfl (sd rfl (yl_load1 ty22 rfl rfl ((hB20.cell 0).trans rfl) (sd rfl (yl_len un22 rfl rfl ?_)))))))))))
 refine sd rfl (yl_move rfl rfl (dn (CW.block (CW.loop (fun m23 L24 w25 => ∃ (k22 : Nat), m23 = p_r.Vals.length - k22 ∧ k22 ≤ p_r.Vals.length ∧ w17.heap.size ≤ w25.heap.size ∧ lkp L24 2 = some (.pointer (some ⟨b10, 0, none⟩)) ∧ lkp L24 3 = some (.pointer (some ⟨b16, 0, none⟩)) ∧ lkp L24 8 = some (.slice A4 p_r.Vals.length c4) ∧ lkp L24 9 = some (.int .i64 ((p_r.Vals.length : Int))) ∧ lkp L24 10 = some (.int .i64 ((k22 : Int))) ∧ Box w25 b10 34 [.string (bs (p_t.Name)), .slice A1 p_t.Cols.length c1, .slice A2 p_t.Idxs.length c2] ∧ RdS w25 (Iv 0 w.heap.size) (RF e_Str) 1 A1 p_t.Cols.length c1 p_t.Cols ∧ RdS w25 (Iv 0 w.heap.size) (RF e_Idx) 3 A2 p_t.Idxs.length c2 p_t.Idxs ∧ Box w25 b16 80 [.slice A4 p_r.Vals.length c4] ∧ RdS w25 (Iv 0 w.heap.size) (RF e_Str) 1 A4 p_r.Vals.length c4 p_r.Vals ∧ Ex w w25 ∧ loopM (B_s_l25Good_0 p_t p_r) (p_r.Vals.length - k22) k22 () = loopM (B_s_l25Good_0 p_t p_r) (p_r.Vals.length - 0) 0 ()) (p_r.Vals.length - 0) ?_ ?_))))
 ·exact ⟨0, rfl, (by omega), Nat.le_refl _, rfl, rfl, rfl, rfl, rfl, (Box.ex hB14 hE21), (RdS.ex good_Str (RdS.ex good_Str h1 hE15) hE21), (RdS.ex good_Idx (RdS.ex good_Idx h2 hE15) hE21), hB20, (RdS.ex good_Str (RdS.ex good_Str h4 hE15) hE21), (Ex.trans (Ex.trans (Ex.refl w) hE15) hE21), rfl⟩
 ·rintro m35 L36 w37 ⟨k22, rfl, hk38, hsz40, hl41, hl42, hl43, hl44, hl45, hf46, hf47, hf48, hf49, hf50, hf51, hI39⟩
  refine CW.sub (Sub.cons hl41 (Sub.cons hl42 (Sub.cons hl43 (Sub.cons hl44 (Sub.cons hl45 (Sub.nil _)))))) ?_
  have hf46z := Box.lt hf46
  have hf49z := Box.lt hf49
  have hf51z := Ex.size hf51
  have hbg52 := RdS.big hf50
  rcases Nat.lt_or_ge k22 p_r.Vals.length with hlt53 | hlt53
  ·refine CW.seq (CW.region (sd rfl (yl_lss rfl rfl rfl (dn (CW.seq (CW.cond_t rfl (lt_t hlt53) (CW.skip (tn ?_))))))))
   refine CW.seq (CW.block (CW.seq (CW.region ?_)))
   obtain ⟨eb54, eo54, _, eA54, _, ebl54, _, eR54, eC54⟩ := RdS.aD hf50 d_Str (i := k22)
   obtain rfl := eR54
   have eC54 : Cells w37 eb54 (eo54 + k22 * 1) [.string (bs ((p_r.Vals.getD k22 d_Str)))] := eC54
   refine sd rfl (yl_ixN un22 ty9 rfl rfl rfl eA54 (sd rfl (yl_load1 ty9 rfl rfl (eC54 0 _ rfl) (sd rfl (yl_assign rfl rfl (dn (CW.seq (CW.region (sd rfl (yl_move rfl rfl (sd rfl (yl_call en127 rfl (oc rfl oz) (Cal.mono (c_s_l25Field (p_r.Vals.getD k22 d_Str) (okL.getD o5 ok_d_Str _)) ?_)))))))))))))
   rintro v56 w55 ⟨rfl, hE57⟩
   have hE57z := Ex.size hE57
   refine sd rfl (yl_not rfl rfl (dn (bcase (s_l25Field (p_r.Vals.getD k22 d_Str)) (fun hb58 => ?_) (fun hb58 => ?_))))
   ·refine CW.cond_f rfl (not_t hb58) (CW.skip (bn (tn (CW.region (sd rfl (yl_inc rfl rfl rfl (by omega) (sd rfl (yl_move rfl rfl (dn ?_)))))))))
    have hB59 : B_s_l25Good_0 p_t p_r k22 () = .cont () := by simp only [B_s_l25Good_0, hb58, cL]
    exact ⟨p_r.Vals.length - (k22 + 1), by omega, k22 + 1, rfl, hlt53, (by omega), rfl, rfl, rfl, rfl, rfl, (Box.ex hf46 hE57), (RdS.ex good_Str hf47 hE57), (RdS.ex good_Idx hf48 hE57), (Box.ex hf49 hE57), (RdS.ex good_Str hf50 hE57), (Ex.trans hf51 hE57), (loopM.cont hlt53 hB59).symm.trans hI39⟩
   ·refine CW.cond_t rfl (not_f hb58) (CW.seq (CW.region (sd rfl (yl_assign rfl rfl (dn (CW.ret (br (tr ?_))))))))
    refine tr ?_
    have hB67 : B_s_l25Good_0 p_t p_r k22 () = .ret false := by simp only [B_s_l25Good_0, hb58, cL]
    have hL66 : loopM (B_s_l25Good_0 p_t p_r) (p_r.Vals.length - 0) 0 () = .ret false := hI39.symm.trans (loopM.ret hlt53 hB67)
    refine br (tr (rr rfl (.cons rfl .nil) ?_))
    have hM68 : (s_l25Good p_t p_r) = (false) := by simp only [s_l25Good, hb58, hL66, cL]
    rw [hM68]
    exact ⟨rfl, (Ex.trans hf51 hE57)⟩
  ·refine CW.seq (CW.region (sd rfl (yl_lss rfl rfl rfl (dn (CW.seq (CW.cond_f rfl (lt_f hlt53) (CW.exit (tx ?_))))))))
   refine tx ?_
   have hL70 : loopM (B_s_l25Good_0 p_t p_r) (p_r.Vals.length - 0) 0 () = .done () := hI39.symm.trans (loopM.stop hlt53)
   refine bx (tn (CW.seq (CW.region (sd rfl (yl_fieldAddr fd80_0 rfl rfl (sd rfl (yl_load1 ty22 rfl rfl ((hf49.cell 0).trans rfl) (sd rfl (yl_len un22 rfl rfl (sd rfl (yl_fieldAddr fd34_1 rfl rfl (sd rfl (yl_load1 ty22 rfl rfl ((hf46.cell 1).trans rfl) ?_)))))))))))))
   refine sd rfl (yl_len un22 rfl rfl (sd rfl (yl_eql rfl rfl rfl (sd rfl (yl_assign rfl rfl (dn (CW.ret (rr rfl (.cons rfl .nil) ?_))))))))
   have hM71 : (s_l25Good p_t p_r) = (decide ((p_r.Vals.length : Int) = (p_t.Cols.length : Int))) := by simp only [s_l25Good, hL70, cL]
   rw [hM71]
   exact ⟨rfl, hf51⟩
theorem c_s_l25Read {A1 : Option Addr} {c1 : Nat} {A2 : Option Addr} {c2 : Nat} {w : World} (p_t : DTable) (p_w : DWrite) (h1 : RdS w (Iv 0 w.heap.size) (RF e_Str) 1 A1 p_t.Cols.length c1 p_t.Cols) (h2 : RdS w (Iv 0 w.heap.size) (RF e_Idx) 3 A2 p_t.Idxs.length c2 p_t.Idxs) (o3 : ok_Table p_t) (o4 : ok_Write p_w) : Cal Tryz.prog 63 #[.agg #[.string (bs (p_t.Name)), .slice A1 p_t.Cols.length c1, .slice A2 p_t.Idxs.length c2], .agg #[.string (bs (p_w.Key)), .string (bs (p_w.Val)), .bool (p_w.Gone)]] w fun v w' => ∃ A_1 c_1 lo_1 hi_1, v = .tuple #[.agg #[.slice A_1 (((s_l25Read p_t p_w).1.Vals).length) c_1], .bool ((s_l25Read p_t p_w).2)] ∧ OwnL w' lo_1 hi_1 9 1 (RF e_Str) A_1 (((s_l25Read p_t p_w).1.Vals).length) c_1 ((s_l25Read p_t p_w).1.Vals) ∧ ok_Row ((s_l25Read p_t p_w).1) ∧ (w.heap.size ≤ lo_1 ∧ lo_1 ≤ hi_1 ∧ hi_1 ≤ w'.heap.size) ∧ Ex w w' := by
 have hol5 : p_t.Name.length ≤ 1073741824 := o3.1
 have hol6 := o3.2.1.1
 have hol7 := o3.2.2.1
 have hol8 : p_w.Key.length ≤ 1073741824 := o4.1
 have hol9 : p_w.Val.length ≤ 1073741824 := o4.2
 refine Cal.of func63 rfl ntmps63 rfl (CW.seq (CW.region (sd rfl (yl_box rfl rfl rfl ?_))))
 intro b10 w11 hs12 hz13 hB14 hE15
 refine sd rfl (yl_box rfl rfl rfl ?_)
 intro b16 w17 hs18 hz19 hB20 hE21
 refine sd rfl (yl_alloc ty80 (cs := [.slice none 0 0]) rfl rfl ?_)
 intro b22 w23 hs24 hz25 hB26 hE27
 refine sd rfl (yl_assign rfl rfl (dn (CW.seq (CW.seq (CW.region (sd rfl (yl_fieldAddr fd75_0 rfl rfl ?_)))))))
 have q28 := Box.ex hB20 hE27
 refine sd rfl (yl_load1 ty9 rfl rfl ((q28.cell 0).trans rfl) (sd rfl (yl_slen un9 (a := p_w.Key) rfl rfl (sd rfl (yl_lss rfl rfl rfl (dn (bcase (decide ((p_w.Key.length : Int) < 3)) (fun hb29 => ?_) (fun hb29 => ?_))))))))
 ·have hb29p := dec_t hb29
  refine CW.cond_t rfl hb29 (CW.seq (CW.region (sd rfl (yl_build (cs := [.slice none 0 0]) rfl opvs_nil (by kernel_rfl) (SeqR.u rfl rfl (yl_store (vs := [.slice none 0 0]) ty80 rfl rfl rfl rfl rfl rfl hB26 (Nat.le_of_ble_eq_true rfl) ?_))))))
  intro w30 hB31 hO32
  have hB31 : Box w30 b22 80 [.slice none 0 0] := hB31
  have hO32z := hO32.size
  refine sd rfl (yl_assign rfl rfl (dn (CW.ret (tr (rr rfl (.cons ⟨_, rfl, run_loadN ty80 (cs := [.slice none 0 0]) rfl (hB31.cells (n := 1) rfl)⟩ (.cons rfl .nil)) ?_)))))
  have hM33 : (s_l25Read p_t p_w) = (((⟨[]⟩ : DRow), false)) := by simp only [s_l25Read, hb29, cL]
  rw [hM33]
  exact ⟨none, 0, w30.heap.size, w30.heap.size, rfl, (OwnL.nil _ _ _ _ _ _), (okL.nil _), (by omega), (Below.only (Ex.trans (Ex.trans (Ex.trans (Ex.refl w) hE15) hE21) hE27) hO32 (by omega))⟩
 ·have hb29p := dec_f hb29
  refine CW.cond_f rfl hb29 (CW.skip (tn (CW.seq ?_)))
  have hrf48 := rf_l1Split p_w.Val 44
  refine CW.drawsG 10 (fun _ _ => False) (fun _ _ _ => False) (vgetG [DetG (.pointer (some ⟨b16, 0 + 0, none⟩)), DetG (.string (bs (p_w.Key))), DetG (.string (bs ((p_w.Key.drop 2)))), fun G v wq => ∃ A38, v = .slice A38 1 1 ∧ (G.dn 7 = false → OwnL wq (G.fl 3) (G.fh 3) 9 1 (RF e_Str) A38 1 1 ([(p_w.Key.drop 2)] : List Str)), DetG (.pointer (some ⟨b16, 0 + 1, none⟩)), DetG (.string (bs (p_w.Val))), fun G v wq => ∃ A42 c42 lo42 hi42, v = .slice A42 ((s_l1Split p_w.Val 44).length) c42 ∧ OwnL wq lo42 hi42 9 1 (RF e_Str) A42 ((s_l1Split p_w.Val 44).length) c42 (s_l1Split p_w.Val 44) ∧ ((G.fl 6) ≤ lo42 ∧ lo42 ≤ hi42 ∧ hi42 ≤ (G.fh 6)), fun G v wq => ∃ A43 c44, v = .slice A43 ((([(p_w.Key.drop 2)] : List Str) ++ (s_l1Split p_w.Val 44)).length) c44 ∧ OwnL wq (G.fl 7) (G.fh 7) 9 1 (RF e_Str) A43 ((([(p_w.Key.drop 2)] : List Str) ++ (s_l1Split p_w.Val 44)).length) c44 (([(p_w.Key.drop 2)] : List Str) ++ (s_l1Split p_w.Val 44)), fun G v wq => ∃ A43 c44, v = .agg #[.slice A43 ((([(p_w.Key.drop 2)] : List Str) ++ (s_l1Split p_w.Val 44)).length) c44] ∧ OwnL wq (G.fl 7) (G.fh 7) 9 1 (RF e_Str) A43 ((([(p_w.Key.drop 2)] : List Str) ++ (s_l1Split p_w.Val 44)).length) c44 (([(p_w.Key.drop 2)] : List Str) ++ (s_l1Split p_w.Val 44)), fun G v wq => v = .pointer (some ⟨(G.fl 9), 0, none⟩) ∧ Box wq (G.fl 9) 80 [.slice none 0 0] ∧ (G.fl 9) < (G.fh 9)]) Tryz.follows rfl rfl rfl rfl rfl rfl (fun _ _ _ _ _ h => h) (fun _ _ _ _ _ _ _ _ _ h => h.elim) (vgetG_kept ⟨(KeptG.det _), (KeptG.det _), (KeptG.det _), (by rintro i G v w w' K hn hh hj ⟨A38, hv, h0⟩ e; have d3 : G.dn 3 = true := hj; have u3 := Gh.ufl (lo := w.heap.size) (hi := w'.heap.size) d3 hn; have t3 := Gh.ufh (lo := w.heap.size) (hi := w'.heap.size) d3 hn; exact ⟨A38, hv, (by intro hd; simp only [u3, t3]; exact OwnL.chg good_Str (h0 (Gh.off hd).2) e (fun b hb hp => by exact hp.elim))⟩), (KeptG.det _), (KeptG.det _), (by rintro i G v w w' K hn hh hj ⟨A42, c42, lo42, hi42, hv, h0, hr0⟩ e; have d6 : G.dn 6 = true := hj; have u6 := Gh.ufl (lo := w.heap.size) (hi := w'.heap.size) d6 hn; have t6 := Gh.ufh (lo := w.heap.size) (hi := w'.heap.size) d6 hn; exact ⟨A42, c42, lo42, hi42, hv, (by exact OwnL.chg good_Str h0 e (fun b hb hp => by exact hp.elim)), (by simp only [u6, t6]; exact hr0)⟩), (by rintro i G v w w' K hn hh hj ⟨A43, c44, hv, h0⟩ e; have d7 : G.dn 7 = true := hj; have u7 := Gh.ufl (lo := w.heap.size) (hi := w'.heap.size) d7 hn; have t7 := Gh.ufh (lo := w.heap.size) (hi := w'.heap.size) d7 hn; exact ⟨A43, c44, hv, (by simp only [u7, t7]; exact OwnL.chg good_Str h0 e (fun b hb hp => by exact hp.elim))⟩), (by rintro i G v w w' K hn hh hj ⟨A43, c44, hv, h0⟩ e; have d7 : G.dn 7 = true := K.cl 8 7 hj rfl; have u7 := Gh.ufl (lo := w.heap.size) (hi := w'.heap.size) d7 hn; have t7 := Gh.ufh (lo := w.heap.size) (hi := w'.heap.size) d7 hn; exact ⟨A43, c44, hv, (by simp only [u7, t7]; exact OwnL.chg good_Str h0 e (fun b hb hp => by exact hp.elim))⟩), (by rintro i G v w w' K hn hh hj ⟨hv, h0, he0⟩ e; have d9 : G.dn 9 = true := hj; have u9 := Gh.ufl (lo := w.heap.size) (hi := w'.heap.size) d9 hn; have t9 := Gh.ufh (lo := w.heap.size) (hi := w'.heap.size) d9 hn; exact ⟨(by simp only [u9, t9]; exact hv), (by simp only [u9, t9]; exact Box.chg h0 e (fun hp => by exact hp.elim)), (by simp only [u9, t9]; exact he0)⟩), trivial⟩) ⟨?_, ?_, ?_, ?_, ?_, ?_, ?_, ?_, ?_, ?_, trivial⟩ ?_
  ·intro L50 w51 G49 hgk52
   have hE53 := hgk52.st.ex.ex (fun b h => h.elim (fun h => h.elim) (fun h => h))
   have hE53z := Ex.size hE53
   exact OpR.op' rfl (Yl.sameG (yl_fieldAddr fd75_0 rfl (hgk52.old 3 _ rfl rfl) kI))
  ·intro L56 w57 G55 hgk58
   have hE59 := hgk58.st.ex.ex (fun b h => h.elim (fun h => h.elim) (fun h => h))
   have hE59z := Ex.size hE59
   obtain ⟨_, hx60, rfl⟩ := hgk58.val 0 12 rfl rfl
   exact OpR.op' rfl (Yl.sameG (yl_load1 ty9 rfl hx60 (((Box.ex q28 hE59).cell 0).trans rfl) kI))
  ·intro L63 w64 G62 hgk65
   have hE66 := hgk65.st.ex.ex (fun b h => h.elim (fun h => h.elim) (fun h => h))
   have hE66z := Ex.size hE66
   obtain ⟨_, hx67, rfl⟩ := hgk65.val 1 13 rfl rfl
   exact OpR.op' rfl (Yl.sameG (yl_sslice_lo un9 (a := p_w.Key) (l := 2) rfl hx67 rfl (by omega) kI))
  ·intro L69 w70 G68 hgk71
   have hE72 := hgk71.st.ex.ex (fun b h => h.elim (fun h => h.elim) (fun h => h))
   have hE72z := Ex.size hE72
   obtain ⟨_, hx73, rfl⟩ := hgk71.val 2 14 rfl rfl
   refine OpR.op' rfl (yl_buildSlice (cs := [.string (bs ((p_w.Key.drop 2)))]) un22 ty9 (by decide) rfl (oc hx73 oz) (by kernel_rfl) ?_)
   intro b74 w75 hs76 hz77 hB78 hE79
   have hO80 : OwnL w75 b74 (b74 + 1) 9 1 (RF e_Str) (some ⟨b74, 0, none⟩) 1 1 ([(p_w.Key.drop 2)] : List Str) := OwnL.of_box (S := fun _ => False) hB78 (Nat.le_refl _) (Nat.lt_succ_self _) (EncL.cons (c := [.string (bs ((p_w.Key.drop 2)))]) rfl rfl EncL.nil) (Nat.le_of_ble_eq_true rfl) (fun h => h) (fun _ h => False.elim h)
   exact ⟨Chg.of_ex hE79, (some ⟨b74, 0, none⟩), rfl, fun _ => OwnL.more (lo' := w70.heap.size) (hi' := w75.heap.size) hO80 (by omega) (by omega)⟩
  ·intro L82 w83 G81 hgk84
   have hE85 := hgk84.st.ex.ex (fun b h => h.elim (fun h => h.elim) (fun h => h))
   have hE85z := Ex.size hE85
   exact OpR.op' rfl (Yl.sameG (yl_fieldAddr fd75_1 rfl (hgk84.old 3 _ rfl rfl) kI))
  ·intro L88 w89 G87 hgk90
   have hE91 := hgk90.st.ex.ex (fun b h => h.elim (fun h => h.elim) (fun h => h))
   have hE91z := Ex.size hE91
   obtain ⟨_, hx92, rfl⟩ := hgk90.val 4 16 rfl rfl
   exact OpR.op' rfl (Yl.sameG (yl_load1 ty9 rfl hx92 (((Box.ex q28 hE91).cell 1).trans rfl) kI))
  ·intro L95 w96 G94 hgk97
   have hE98 := hgk97.st.ex.ex (fun b h => h.elim (fun h => h.elim) (fun h => h))
   have hE98z := Ex.size hE98
   obtain ⟨_, hx99, rfl⟩ := hgk97.val 5 17 rfl rfl
   refine OpR.op' rfl (yl_call en95 rfl (oc hx99 (oc rfl oz)) (Cal.mono (c_s_l1Split p_w.Val 44 o4.2) ?_))
   rintro v102 w100 ⟨A101, c101, lo101, hi101, rfl, h101, hrn104, hE103⟩
   exact ⟨Chg.of_ex hE103, A101, c101, lo101, hi101, rfl, h101, hrn104⟩
  ·intro L106 w107 G105 hgk108
   have hE109 := hgk108.st.ex.ex (fun b h => h.elim (fun h => h.elim) (fun h => h))
   have hE109z := Ex.size hE109
   obtain ⟨_, hx110, A38_111, rfl, h112⟩ := hgk108.val 3 15 rfl rfl
   have h112 := h112 hgk108.new
   obtain ⟨_, hx113, A42_114, c42_115, lo42_116, hi42_117, rfl, h118, hrn119⟩ := hgk108.val 6 18 rfl rfl
   have hr120 := hgk108.st.rng 3 (hgk108.has 3 rfl)
   have hr121 := hgk108.st.rng 6 (hgk108.has 6 rfl)
   have hsp122 := hgk108.st.sep 3 6 (hgk108.has 3 rfl) (hgk108.has 6 rfl) rfl
   have hol123 : (s_l1Split p_w.Val 44).length ≤ 2147483648 := (okL_l1Split o4.2).1
   refine OpR.op' rfl (yl_appendF (lo := w107.heap.size) (xs := ([(p_w.Key.drop 2)] : List Str)) (ys := (s_l1Split p_w.Val 44)) good_Str un22 ty9 rfl (Nat.le_of_ble_eq_true rfl) rfl hx110 hx113 (by first | omega | (simp only [List.length_append, List.length_cons, List.length_nil, List.length_take, List.length_drop, List.length_replicate, List.length_set, toS_length]; omega)) (OwnL.rd good_Str h112) (OwnL.rd good_Str h118) (by first | omega | (simp only [List.length_append, List.length_cons, List.length_nil, List.length_take, List.length_drop, List.length_replicate, List.length_set, toS_length]; omega)) (by first | omega | (simp only [List.length_append, List.length_cons, List.length_nil, List.length_take, List.length_drop, List.length_replicate, List.length_set, toS_length]; omega)) (by first | omega | (simp only [List.length_append, List.length_cons, List.length_nil, List.length_take, List.length_drop, List.length_replicate, List.length_set, toS_length]; omega)) (Nat.le_refl _) (fun _ _ h => h) (fun _ _ h => h) ?_)
   intro A126 c127 w128 hO129 hE130 hrg131
   have hE130z := hE130.size
   exact ⟨Chg.of_ex hE130, A126, c127, rfl, OwnL.more (lo' := w107.heap.size) (hi' := w128.heap.size) hO129 (by omega) (by omega)⟩
  ·intro L133 w134 G132 hgk135
   have hE136 := hgk135.st.ex.ex (fun b h => h.elim (fun h => h.elim) (fun h => h))
   have hE136z := Ex.size hE136
   obtain ⟨_, hx137, A43_138, c44_139, rfl, h140⟩ := hgk135.val 7 19 rfl rfl
   have hr141 := hgk135.st.rng 7 (hgk135.has 7 rfl)
   exact OpR.op' rfl (Yl.sameG (yl_build (cs := [.slice A43_138 ((([(p_w.Key.drop 2)] : List Str) ++ (s_l1Split p_w.Val 44)).length) c44_139]) rfl (oc hx137 oz) (by kernel_rfl) ⟨fun _ _ => ⟨A43_138, c44_139, rfl, (OwnL.more (lo' := (G132.fl 7)) (hi' := (G132.fh 7)) h140 (by omega) (by omega))⟩, rfl⟩))
  ·intro L143 w144 G142 hgk145
   have hE146 := hgk145.st.ex.ex (fun b h => h.elim (fun h => h.elim) (fun h => h))
   have hE146z := Ex.size hE146
   refine OpR.op' rfl (yl_alloc ty80 (cs := [.slice none 0 0]) rfl rfl ?_)
   intro b147 w148 hs149 hz150 hB151 hE152
   subst hs149
   exact ⟨Chg.of_ex hE152, rfl, hB151, by rw [Gh.sfl, Gh.sfh]; omega⟩
  ·intro G153 L154 w155 hgp156
   have hE157 := hgp156.st.ex.ex (fun b h => h.elim (fun h => h.elim) (fun h => h))
   have hE157z := Ex.size hE157
   obtain ⟨_, hx161, A42_162, c42_163, lo42_164, hi42_165, rfl, h166, hrn167⟩ := hgp156.val 6 18 rfl rfl
   obtain ⟨_, hx168, A43_169, c44_170, rfl, h171⟩ := hgp156.val 7 19 rfl rfl
   obtain ⟨_, hx172, A43_173, c44_174, rfl, h175⟩ := hgp156.val 8 20 rfl rfl
   obtain ⟨_, hx176, rfl, h177, he178⟩ := hgp156.val 9 6 rfl rfl
   have hr179 := hgp156.st.rng 6 (hgp156.has 6 rfl)
   have hr180 := hgp156.st.rng 7 (hgp156.has 7 rfl)
   have hr181 := hgp156.st.rng 8 (hgp156.has 8 rfl)
   have hr182 := hgp156.st.rng 9 (hgp156.has 9 rfl)
   have hsp183 := hgp156.st.ord 7 6 (hgp156.has 7 rfl) rfl
   have hsp184 := hgp156.st.ord 8 6 (hgp156.has 8 rfl) rfl
   have hsp185 := hgp156.st.sep 6 9 (hgp156.has 6 rfl) (hgp156.has 9 rfl) rfl
   have hsp186 := hgp156.st.ord 8 7 (hgp156.has 8 rfl) rfl
   have hsp187 := hgp156.st.sep 7 9 (hgp156.has 7 rfl) (hgp156.has 9 rfl) rfl
   have hsp188 := hgp156.st.sep 8 9 (hgp156.has 8 rfl) (hgp156.has 9 rfl) rfl
   refine SeqR.u rfl rfl (yl_store (vs := [.slice A43_173 ((([(p_w.Key.drop 2)] : List Str) ++ (s_l1Split p_w.Val 44)).length) c44_174]) ty80 rfl hx176 hx172 rfl rfl rfl h177 (Nat.le_of_ble_eq_true rfl) ?_)
   intro w189 hB190 hO191
   have hB190 : Box w189 (G153.fl 9) 80 [.slice A43_173 ((([(p_w.Key.drop 2)] : List Str) ++ (s_l1Split p_w.Val 44)).length) c44_174] := hB190
   have hO191z := hO191.size
   refine dn (CW.sub (Sub.cons (d := 2) (hgp156.old 2 _ rfl rfl) (Sub.cons (d := 3) (hgp156.old 3 _ rfl rfl) (Sub.cons (d := 4) (hgp156.old 4 _ rfl rfl) (Sub.cons (d := 6) hx176 (Sub.nil _))))) (CW.seq ?_))
   have hol208 : (s_l1Split p_w.Val 44).length ≤ 2147483648 := (okL_l1Split o4.2).1
   refine bcase (s_l25Good p_t (⟨(([(p_w.Key.drop 2)] : List Str) ++ (s_l1Split p_w.Val 44))⟩ : DRow)) (fun hb210 => ?_) (fun hb210 => ?_)
   ·obtain ⟨hb210p0, hb210p1⟩ := f_s_l25Good hb210
    have q214 := Box.only (Box.ex (Box.ex (Box.ex hB14 hE21) hE27) hE157) hO191 (by omega)
    have q219 := RdS.only good_Str (RdS.ex good_Str (RdS.ex good_Str (RdS.ex good_Str (RdS.ex good_Str h1 hE15) hE21) hE27) hE157) hO191 (by simp only [Iv]; omega)
    have q224 := RdS.only good_Idx (RdS.ex good_Idx (RdS.ex good_Idx (RdS.ex good_Idx (RdS.ex good_Idx h2 hE15) hE21) hE27) hE157) hO191 (by simp only [Iv]; omega)
    have q226 := OwnL.only good_Str h175 hO191 (by omega)
    have hol227 : (s_l1Split p_w.Val 44).length ≤ 2147483648 := (okL_l1Split o4.2).1
    have hol230 : (s_l1Split p_w.Val 44).length ≤ 2147483648 := (okL_l1Split o4.2).1
    have q233 := Box.only (Box.ex q28 hE157) hO191 (by omega)
    refine CW.drawsG 13 (fun G b => G.dn 11 = true ∧ InR [(b22, b22 + 1)] b) (fun i G b => (i = 11 ∧ b22 ≤ b ∧ b < b22 + 1)) (vgetG [DetG (.agg #[.slice A43_173 ((([(p_w.Key.drop 2)] : List Str) ++ (s_l1Split p_w.Val 44)).length) c44_174]), DetG (.agg #[.string (bs (p_t.Name)), .slice A1 p_t.Cols.length c1, .slice A2 p_t.Idxs.length c2]), DetG (.agg #[.slice A43_173 ((([(p_w.Key.drop 2)] : List Str) ++ (s_l1Split p_w.Val 44)).length) c44_174]), DetG (.bool ((s_l25Good p_t (⟨(([(p_w.Key.drop 2)] : List Str) ++ (s_l1Split p_w.Val 44))⟩ : DRow)))), DetG (.bool ((s_l25Good p_t (⟨(([(p_w.Key.drop 2)] : List Str) ++ (s_l1Split p_w.Val 44))⟩ : DRow)))), DetG (.agg #[.string (bs (p_t.Name)), .slice A1 p_t.Cols.length c1, .slice A2 p_t.Idxs.length c2]), DetG (.agg #[.slice A43_173 ((([(p_w.Key.drop 2)] : List Str) ++ (s_l1Split p_w.Val 44)).length) c44_174]), DetG (.agg #[.string (bs ((s_l25Write p_t (⟨(([(p_w.Key.drop 2)] : List Str) ++ (s_l1Split p_w.Val 44))⟩ : DRow)).Key)), .string (bs ((s_l25Write p_t (⟨(([(p_w.Key.drop 2)] : List Str) ++ (s_l1Split p_w.Val 44))⟩ : DRow)).Val)), .bool ((s_l25Write p_t (⟨(([(p_w.Key.drop 2)] : List Str) ++ (s_l1Split p_w.Val 44))⟩ : DRow)).Gone)]), DetG (.agg #[.string (bs (p_w.Key)), .string (bs (p_w.Val)), .bool (p_w.Gone)]), DetG (.bool (((((s_l25Write p_t (⟨(([(p_w.Key.drop 2)] : List Str) ++ (s_l1Split p_w.Val 44))⟩ : DRow)).Key) == p_w.Key) && ((((s_l25Write p_t (⟨(([(p_w.Key.drop 2)] : List Str) ++ (s_l1Split p_w.Val 44))⟩ : DRow)).Val) == p_w.Val) && (((s_l25Write p_t (⟨(([(p_w.Key.drop 2)] : List Str) ++ (s_l1Split p_w.Val 44))⟩ : DRow)).Gone) == p_w.Gone))))), DetG (.bool (((((s_l25Write p_t (⟨(([(p_w.Key.drop 2)] : List Str) ++ (s_l1Split p_w.Val 44))⟩ : DRow)).Key) == p_w.Key) && ((((s_l25Write p_t (⟨(([(p_w.Key.drop 2)] : List Str) ++ (s_l1Split p_w.Val 44))⟩ : DRow)).Val) == p_w.Val) && (((s_l25Write p_t (⟨(([(p_w.Key.drop 2)] : List Str) ++ (s_l1Split p_w.Val 44))⟩ : DRow)).Gone) == p_w.Gone))))), fun G v wq => Box wq b22 80 [.slice A43_173 ((([(p_w.Key.drop 2)] : List Str) ++ (s_l1Split p_w.Val 44)).length) c44_174], DetG (.bool (((((s_l25Write p_t (⟨(([(p_w.Key.drop 2)] : List Str) ++ (s_l1Split p_w.Val 44))⟩ : DRow)).Key) == p_w.Key) && ((((s_l25Write p_t (⟨(([(p_w.Key.drop 2)] : List Str) ++ (s_l1Split p_w.Val 44))⟩ : DRow)).Val) == p_w.Val) && (((s_l25Write p_t (⟨(([(p_w.Key.drop 2)] : List Str) ++ (s_l1Split p_w.Val 44))⟩ : DRow)).Gone) == p_w.Gone)))))]) Tryz.follows rfl rfl rfl rfl rfl rfl (fun _ _ _ _ _ h => ⟨Gh.udn h.1, h.2⟩) (fun i G w lo hi b K hn hh hp => by exact (match hp with | ⟨e, q1, q2⟩ => by subst e; exact .inl ⟨Gh.sdn, .inl ⟨q1, q2⟩⟩)) (vgetG_kept ⟨(KeptG.det _), (KeptG.det _), (KeptG.det _), (KeptG.det _), (KeptG.det _), (KeptG.det _), (KeptG.det _), (KeptG.det _), (KeptG.det _), (KeptG.det _), (KeptG.det _), (by rintro i G v w w' K hn hh hj h0 e; exact (by exact Box.chg h0 e (fun hp => by obtain ⟨rfl, q1, q2⟩ := hp; rw [hj] at hn; cases hn))), (KeptG.det _), trivial⟩) ⟨?_, ?_, ?_, ?_, ?_, ?_, ?_, ?_, ?_, ?_, ?_, ?_, ?_, trivial⟩ ?_
    ·intro L236 w237 G235 hgk238
     have hE239 : Chg (fun b => InR [(b22, b22 + 1)] b ∨ w189.heap.size ≤ b) w189 w237 := hgk238.st.ex.imp (fun b _ h => h.imp (fun h => h.2) (fun h => h))
     have hE239z := Chg.size hE239
     exact OpR.op' rfl (Yl.sameG (yl_loadN ty80 rfl (hgk238.old 6 _ rfl rfl) ((Box.chg hB190 hE239 (by have := Box.lt hB190; simp only [InR, or_false]; omega)).cells (n := 1) rfl) rfl kI))
    ·intro L243 w244 G242 hgk245
     have hE246 : Chg (fun b => InR [(b22, b22 + 1)] b ∨ w189.heap.size ≤ b) w189 w244 := hgk245.st.ex.imp (fun b _ h => h.imp (fun h => h.2) (fun h => h))
     have hE246z := Chg.size hE246
     exact OpR.op' rfl (Yl.sameG (yl_loadN ty34 rfl (hgk245.old 2 _ rfl rfl) ((Box.chg q214 hE246 (by have := Box.lt q214; simp only [InR, or_false]; omega)).cells (n := 3) rfl) rfl kI))
    ·intro L250 w251 G249 hgk252
     have hE253 : Chg (fun b => InR [(b22, b22 + 1)] b ∨ w189.heap.size ≤ b) w189 w251 := hgk252.st.ex.imp (fun b _ h => h.imp (fun h => h.2) (fun h => h))
     have hE253z := Chg.size hE253
     exact OpR.op' rfl (Yl.sameG (yl_loadN ty80 rfl (hgk252.old 6 _ rfl rfl) ((Box.chg hB190 hE253 (by have := Box.lt hB190; simp only [InR, or_false]; omega)).cells (n := 1) rfl) rfl kI))
    ·intro L257 w258 G256 hgk259
     have hE260 : Chg (fun b => InR [(b22, b22 + 1)] b ∨ w189.heap.size ≤ b) w189 w258 := hgk259.st.ex.imp (fun b _ h => h.imp (fun h => h.2) (fun h => h))
     have hE260z := Chg.size hE260
     obtain ⟨_, hx261, rfl⟩ := hgk259.val 1 22 rfl rfl
     obtain ⟨_, hx262, rfl⟩ := hgk259.val 2 23 rfl rfl
     have hol267 : (s_l1Split p_w.Val 44).length ≤ 2147483648 := (okL_l1Split o4.2).1
     refine OpR.op' rfl (yl_call en96 rfl (oc hx261 (oc hx262 oz)) (Cal.mono (c_s_l25Good p_t (⟨(([(p_w.Key.drop 2)] : List Str) ++ (s_l1Split p_w.Val 44))⟩ : DRow) (RdS.up (RdS.chg good_Str q219 hE260 (fun k hl hk => by simp only [InR, or_false, Iv, Ge] at hk ⊢; omega)) good_Str) (RdS.up (RdS.chg good_Idx q224 hE260 (fun k hl hk => by simp only [InR, or_false, Iv, Ge] at hk ⊢; omega)) good_Idx) (RdS.up (OwnL.rd good_Str (OwnL.chg good_Str q226 hE260 (fun k hl hk => by simp only [InR, or_false] at hk; omega))) good_Str) o3 (okL.mk (xs := (([(p_w.Key.drop 2)] : List Str) ++ (s_l1Split p_w.Val 44))) (by first | omega | (simp only [List.length_append, List.length_cons, List.length_nil, List.length_take, List.length_drop, List.length_replicate, List.length_set, toS_length]; omega)) (okE.append ((okL.mk (Nat.le_of_ble_eq_true rfl) (okE.cons (okS.drop o4.1 _) okE.nil))).2 ((okL_l1Split o4.2)).2))) ?_))
     rintro v269 w268 ⟨rfl, hE270⟩
     exact ⟨Chg.of_ex hE270, rfl⟩
    ·intro L272 w273 G271 hgk274
     have hE275 : Chg (fun b => InR [(b22, b22 + 1)] b ∨ w189.heap.size ≤ b) w189 w273 := hgk274.st.ex.imp (fun b _ h => h.imp (fun h => h.2) (fun h => h))
     have hE275z := Chg.size hE275
     obtain ⟨_, hx276, rfl⟩ := hgk274.val 3 24 rfl rfl
     exact OpR.op' rfl (Yl.sameG (yl_move rfl hx276 kI))
    ·intro L278 w279 G277 hgk280
     have hE281 : Chg (fun b => InR [(b22, b22 + 1)] b ∨ w189.heap.size ≤ b) w189 w279 := hgk280.st.ex.imp (fun b _ h => h.imp (fun h => h.2) (fun h => h))
     have hE281z := Chg.size hE281
     obtain ⟨_, hx282, rfl⟩ := hgk280.val 4 25 rfl rfl
     exact OpR.want rfl rfl hx282 hb210 (Yl.sameG (yl_loadN ty34 rfl (hgk280.old 2 _ rfl rfl) ((Box.chg q214 hE281 (by have := Box.lt q214; simp only [InR, or_false]; omega)).cells (n := 3) rfl) rfl kI))
    ·intro L286 w287 G285 hgk288
     have hE289 : Chg (fun b => InR [(b22, b22 + 1)] b ∨ w189.heap.size ≤ b) w189 w287 := hgk288.st.ex.imp (fun b _ h => h.imp (fun h => h.2) (fun h => h))
     have hE289z := Chg.size hE289
     obtain ⟨_, hx290, rfl⟩ := hgk288.val 4 25 rfl rfl
     exact OpR.want rfl rfl hx290 hb210 (Yl.sameG (yl_loadN ty80 rfl (hgk288.old 6 _ rfl rfl) ((Box.chg hB190 hE289 (by have := Box.lt hB190; simp only [InR, or_false]; omega)).cells (n := 1) rfl) rfl kI))
    ·intro L294 w295 G293 hgk296
     have hE297 : Chg (fun b => InR [(b22, b22 + 1)] b ∨ w189.heap.size ≤ b) w189 w295 := hgk296.st.ex.imp (fun b _ h => h.imp (fun h => h.2) (fun h => h))
     have hE297z := Chg.size hE297
     obtain ⟨_, hx298, rfl⟩ := hgk296.val 4 25 rfl rfl
     obtain ⟨_, hx299, rfl⟩ := hgk296.val 5 26 rfl rfl
     obtain ⟨_, hx300, rfl⟩ := hgk296.val 6 27 rfl rfl
     have hol305 : (s_l1Split p_w.Val 44).length ≤ 2147483648 := (okL_l1Split o4.2).1
     refine OpR.want rfl rfl hx298 hb210 (yl_call en78 rfl (oc hx299 (oc hx300 oz)) (Cal.mono (c_s_l25Write p_t (⟨(([(p_w.Key.drop 2)] : List Str) ++ (s_l1Split p_w.Val 44))⟩ : DRow) (RdS.up (RdS.chg good_Str q219 hE297 (fun k hl hk => by simp only [InR, or_false, Iv, Ge] at hk ⊢; omega)) good_Str) (RdS.up (RdS.chg good_Idx q224 hE297 (fun k hl hk => by simp only [InR, or_false, Iv, Ge] at hk ⊢; omega)) good_Idx) (RdS.up (OwnL.rd good_Str (OwnL.chg good_Str q226 hE297 (fun k hl hk => by simp only [InR, or_false] at hk; omega))) good_Str) o3 (okL.mk (xs := (([(p_w.Key.drop 2)] : List Str) ++ (s_l1Split p_w.Val 44))) (by first | omega | (simp only [List.length_append, List.length_cons, List.length_nil, List.length_take, List.length_drop, List.length_replicate, List.length_set, toS_length]; omega)) (okE.append ((okL.mk (Nat.le_of_ble_eq_true rfl) (okE.cons (okS.drop o4.1 _) okE.nil))).2 ((okL_l1Split o4.2)).2)) (by first | omega | assumption | (simp only [wI] at *; omega) | (simp only [List.length_append, List.length_cons, List.length_nil]; omega))) ?_))
     rintro v307 w306 ⟨rfl, hE308⟩
     exact ⟨Chg.of_ex hE308, rfl⟩
    ·intro L310 w311 G309 hgk312
     have hE313 : Chg (fun b => InR [(b22, b22 + 1)] b ∨ w189.heap.size ≤ b) w189 w311 := hgk312.st.ex.imp (fun b _ h => h.imp (fun h => h.2) (fun h => h))
     have hE313z := Chg.size hE313
     obtain ⟨_, hx314, rfl⟩ := hgk312.val 4 25 rfl rfl
     exact OpR.want rfl rfl hx314 hb210 (Yl.sameG (yl_loadN ty75 rfl (hgk312.old 3 _ rfl rfl) ((Box.chg q233 hE313 (by have := Box.lt q233; simp only [InR, or_false]; omega)).cells (n := 3) rfl) rfl kI))
    ·intro L318 w319 G317 hgk320
     have hE321 : Chg (fun b => InR [(b22, b22 + 1)] b ∨ w189.heap.size ≤ b) w189 w319 := hgk320.st.ex.imp (fun b _ h => h.imp (fun h => h.2) (fun h => h))
     have hE321z := Chg.size hE321
     obtain ⟨_, hx322, rfl⟩ := hgk320.val 4 25 rfl rfl
     obtain ⟨_, hx323, rfl⟩ := hgk320.val 7 28 rfl rfl
     obtain ⟨_, hx324, rfl⟩ := hgk320.val 8 29 rfl rfl
     exact OpR.want rfl rfl hx322 hb210 (Yl.sameG (yl_aeql (xs := [.string (bs ((s_l25Write p_t (⟨(([(p_w.Key.drop 2)] : List Str) ++ (s_l1Split p_w.Val 44))⟩ : DRow)).Key)), .string (bs ((s_l25Write p_t (⟨(([(p_w.Key.drop 2)] : List Str) ++ (s_l1Split p_w.Val 44))⟩ : DRow)).Val)), .bool ((s_l25Write p_t (⟨(([(p_w.Key.drop 2)] : List Str) ++ (s_l1Split p_w.Val 44))⟩ : DRow)).Gone)]) (ys := [.string (bs (p_w.Key)), .string (bs (p_w.Val)), .bool (p_w.Gone)]) Tryz.ae75 rfl hx323 hx324 kI))
    ·intro L326 w327 G325 hgk328
     have hE329 : Chg (fun b => InR [(b22, b22 + 1)] b ∨ w189.heap.size ≤ b) w189 w327 := hgk328.st.ex.imp (fun b _ h => h.imp (fun h => h.2) (fun h => h))
     have hE329z := Chg.size hE329
     obtain ⟨_, hx330, rfl⟩ := hgk328.val 9 30 rfl rfl
     obtain ⟨_, hx331, rfl⟩ := hgk328.val 4 25 rfl rfl
     exact OpR.op' rfl (Yl.sameG (yl_pick_t rfl hx331 hb210 hx330 kI))
    ·intro L333 w334 G332 hgk335
     have hE336 := hgk335.st.ex.ex (fun b h => h.elim (fun h => (Bool.false_ne_true (hgk335.new.symm.trans h.1)).elim) (fun h => h))
     have hE336z := Ex.size hE336
     obtain ⟨_, hx338, rfl⟩ := hgk335.val 0 21 rfl rfl
     refine OpR.op' rfl (yl_store (vs := [.slice A43_173 ((([(p_w.Key.drop 2)] : List Str) ++ (s_l1Split p_w.Val 44)).length) c44_174]) ty80 rfl (hgk335.old 4 _ rfl rfl) hx338 rfl rfl rfl (Box.ex (Box.only (Box.ex hB26 hE157) hO191 (by omega)) hE336) (Nat.le_of_ble_eq_true rfl) ?_)
     intro w342 hB343 hO344
     have hO344z := hO344.size
     exact ⟨Chg.of_only hO344 (⟨rfl, Nat.le_refl _, by omega⟩), hB343⟩
    ·intro L346 w347 G345 hgk348
     have hE349 : Chg (fun b => InR [(b22, b22 + 1)] b ∨ w189.heap.size ≤ b) w189 w347 := hgk348.st.ex.imp (fun b _ h => h.imp (fun h => h.2) (fun h => h))
     have hE349z := Chg.size hE349
     obtain ⟨_, hx350, rfl⟩ := hgk348.val 10 31 rfl rfl
     exact OpR.op' rfl (Yl.sameG (yl_assign rfl hx350 kI))
    ·intro G351 L352 w353 hgp354
     have hE355 : Chg (fun b => InR [(b22, b22 + 1)] b ∨ w189.heap.size ≤ b) w189 w353 := hgp354.st.ex.imp (fun b _ h => h.imp (fun h => h.2) (fun h => h))
     have hE355z := Chg.size hE355
     obtain ⟨_, h357⟩ := hgp354.fact 11 rfl
     obtain ⟨_, hx358, rfl⟩ := hgp354.val 12 5 rfl rfl
     have hr359 := hgp354.st.rng 11 (hgp354.has 11 rfl)
     refine dn (CW.sub (Sub.cons (d := 4) (hgp354.old 4 _ rfl rfl) (Sub.cons (d := 5) hx358 (Sub.nil _))) (CW.ret (rr rfl (.cons ⟨_, rfl, run_loadN ty80 (cs := [.slice A43_173 ((([(p_w.Key.drop 2)] : List Str) ++ (s_l1Split p_w.Val 44)).length) c44_174]) rfl (h357.cells (n := 1) rfl)⟩ (.cons rfl .nil)) ?_)))
     have hM360 : (s_l25Read p_t p_w) = (((⟨(([(p_w.Key.drop 2)] : List Str) ++ (s_l1Split p_w.Val 44))⟩ : DRow), ((((s_l25Write p_t (⟨(([(p_w.Key.drop 2)] : List Str) ++ (s_l1Split p_w.Val 44))⟩ : DRow)).Key) == p_w.Key) && ((((s_l25Write p_t (⟨(([(p_w.Key.drop 2)] : List Str) ++ (s_l1Split p_w.Val 44))⟩ : DRow)).Val) == p_w.Val) && (((s_l25Write p_t (⟨(([(p_w.Key.drop 2)] : List Str) ++ (s_l1Split p_w.Val 44))⟩ : DRow)).Gone) == p_w.Gone))))) := by simp only [s_l25Read, hb29, hb210, cL]
     have hol362 : (s_l1Split p_w.Val 44).length ≤ 2147483648 := (okL_l1Split o4.2).1
     rw [hM360]
     exact ⟨A43_173, c44_174, (G153.fl 7), (G153.fh 7), rfl, (OwnL.chg good_Str q226 hE355 (fun k hl hk => by simp only [InR, or_false] at hk; omega)), (okL.mk (xs := (([(p_w.Key.drop 2)] : List Str) ++ (s_l1Split p_w.Val 44))) (by first | omega | (simp only [List.length_append, List.length_cons, List.length_nil, List.length_take, List.length_drop, List.length_replicate, List.length_set, toS_length]; omega)) (okE.append ((okL.mk (Nat.le_of_ble_eq_true rfl) (okE.cons (okS.drop o4.1 _) okE.nil))).2 ((okL_l1Split o4.2)).2)), (by omega), (Ex.chg (Below.only (Ex.trans (Ex.trans (Ex.trans (Ex.trans (Ex.refl w) hE15) hE21) hE27) hE157) hO191 (by omega)) hE355 (fun k hk => by simp only [InR, or_false] at hk; omega))⟩
   ·have q372 := Box.only (Box.ex (Box.ex (Box.ex hB14 hE21) hE27) hE157) hO191 (by omega)
    have q384 := OwnL.only good_Str h175 hO191 (by omega)
    have hol385 : (s_l1Split p_w.Val 44).length ≤ 2147483648 := (okL_l1Split o4.2).1
    refine CW.drawsG 13 (fun G b => G.dn 11 = true ∧ InR [(b22, b22 + 1)] b) (fun i G b => (i = 11 ∧ b22 ≤ b ∧ b < b22 + 1)) (vgetG [DetG (.agg #[.slice A43_173 ((([(p_w.Key.drop 2)] : List Str) ++ (s_l1Split p_w.Val 44)).length) c44_174]), DetG (.agg #[.string (bs (p_t.Name)), .slice A1 p_t.Cols.length c1, .slice A2 p_t.Idxs.length c2]), DetG (.agg #[.slice A43_173 ((([(p_w.Key.drop 2)] : List Str) ++ (s_l1Split p_w.Val 44)).length) c44_174]), DetG (.bool ((s_l25Good p_t (⟨(([(p_w.Key.drop 2)] : List Str) ++ (s_l1Split p_w.Val 44))⟩ : DRow)))), DetG (.bool ((s_l25Good p_t (⟨(([(p_w.Key.drop 2)] : List Str) ++ (s_l1Split p_w.Val 44))⟩ : DRow)))), DetG (undef), DetG (undef), DetG (undef), DetG (undef), DetG (undef), DetG (.bool (false)), fun G v wq => Box wq b22 80 [.slice A43_173 ((([(p_w.Key.drop 2)] : List Str) ++ (s_l1Split p_w.Val 44)).length) c44_174], DetG (.bool (false))]) Tryz.follows rfl rfl rfl rfl rfl rfl (fun _ _ _ _ _ h => ⟨Gh.udn h.1, h.2⟩) (fun i G w lo hi b K hn hh hp => by exact (match hp with | ⟨e, q1, q2⟩ => by subst e; exact .inl ⟨Gh.sdn, .inl ⟨q1, q2⟩⟩)) (vgetG_kept ⟨(KeptG.det _), (KeptG.det _), (KeptG.det _), (KeptG.det _), (KeptG.det _), (KeptG.det _), (KeptG.det _), (KeptG.det _), (KeptG.det _), (KeptG.det _), (KeptG.det _), (by rintro i G v w w' K hn hh hj h0 e; exact (by exact Box.chg h0 e (fun hp => by obtain ⟨rfl, q1, q2⟩ := hp; rw [hj] at hn; cases hn))), (KeptG.det _), trivial⟩) ⟨?_, ?_, ?_, ?_, ?_, ?_, ?_, ?_, ?_, ?_, ?_, ?_, ?_, trivial⟩ ?_
    ·intro L389 w390 G388 hgk391
     have hE392 : Chg (fun b => InR [(b22, b22 + 1)] b ∨ w189.heap.size ≤ b) w189 w390 := hgk391.st.ex.imp (fun b _ h => h.imp (fun h => h.2) (fun h => h))
     have hE392z := Chg.size hE392
     exact OpR.op' rfl (Yl.sameG (yl_loadN ty80 rfl (hgk391.old 6 _ rfl rfl) ((Box.chg hB190 hE392 (by have := Box.lt hB190; simp only [InR, or_false]; omega)).cells (n := 1) rfl) rfl kI))
    ·intro L396 w397 G395 hgk398
     have hE399 : Chg (fun b => InR [(b22, b22 + 1)] b ∨ w189.heap.size ≤ b) w189 w397 := hgk398.st.ex.imp (fun b _ h => h.imp (fun h => h.2) (fun h => h))
     have hE399z := Chg.size hE399
     exact OpR.op' rfl (Yl.sameG (yl_loadN ty34 rfl (hgk398.old 2 _ rfl rfl) ((Box.chg q372 hE399 (by have := Box.lt q372; simp only [InR, or_false]; omega)).cells (n := 3) rfl) rfl kI))
    ·intro L403 w404 G402 hgk405
     have hE406 : Chg (fun b => InR [(b22, b22 + 1)] b ∨ w189.heap.size ≤ b) w189 w404 := hgk405.st.ex.imp (fun b _ h => h.imp (fun h => h.2) (fun h => h))
     have hE406z := Chg.size hE406
     exact OpR.op' rfl (Yl.sameG (yl_loadN ty80 rfl (hgk405.old 6 _ rfl rfl) ((Box.chg hB190 hE406 (by have := Box.lt hB190; simp only [InR, or_false]; omega)).cells (n := 1) rfl) rfl kI))
    ·intro L410 w411 G409 hgk412
     have hE413 : Chg (fun b => InR [(b22, b22 + 1)] b ∨ w189.heap.size ≤ b) w189 w411 := hgk412.st.ex.imp (fun b _ h => h.imp (fun h => h.2) (fun h => h))
     have hE413z := Chg.size hE413
     obtain ⟨_, hx414, rfl⟩ := hgk412.val 1 22 rfl rfl
     obtain ⟨_, hx415, rfl⟩ := hgk412.val 2 23 rfl rfl
     have hol420 : (s_l1Split p_w.Val 44).length ≤ 2147483648 := (okL_l1Split o4.2).1
     refine OpR.op' rfl (yl_call en96 rfl (oc hx414 (oc hx415 oz)) (Cal.mono (c_s_l25Good p_t (⟨(([(p_w.Key.drop 2)] : List Str) ++ (s_l1Split p_w.Val 44))⟩ : DRow) (RdS.up (RdS.chg good_Str (RdS.only good_Str (RdS.ex good_Str (RdS.ex good_Str (RdS.ex good_Str (RdS.ex good_Str h1 hE15) hE21) hE27) hE157) hO191 (by simp only [Iv]; omega)) hE413 (fun k hl hk => by simp only [InR, or_false, Iv, Ge] at hk ⊢; omega)) good_Str) (RdS.up (RdS.chg good_Idx (RdS.only good_Idx (RdS.ex good_Idx (RdS.ex good_Idx (RdS.ex good_Idx (RdS.ex good_Idx h2 hE15) hE21) hE27) hE157) hO191 (by simp only [Iv]; omega)) hE413 (fun k hl hk => by simp only [InR, or_false, Iv, Ge] at hk ⊢; omega)) good_Idx) (RdS.up (OwnL.rd good_Str (OwnL.chg good_Str q384 hE413 (fun k hl hk => by simp only [InR, or_false] at hk; omega))) good_Str) o3 (okL.mk (xs := (([(p_w.Key.drop 2)] : List Str) ++ (s_l1Split p_w.Val 44))) (by first | omega | (simp only [List.length_append, List.length_cons, List.length_nil, List.length_take, List.length_drop, List.length_replicate, List.length_set, toS_length]; omega)) (okE.append ((okL.mk (Nat.le_of_ble_eq_true rfl) (okE.cons (okS.drop o4.1 _) okE.nil))).2 ((okL_l1Split o4.2)).2))) ?_))
     rintro v422 w421 ⟨rfl, hE423⟩
     exact ⟨Chg.of_ex hE423, rfl⟩
    ·intro L425 w426 G424 hgk427
     have hE428 : Chg (fun b => InR [(b22, b22 + 1)] b ∨ w189.heap.size ≤ b) w189 w426 := hgk427.st.ex.imp (fun b _ h => h.imp (fun h => h.2) (fun h => h))
     have hE428z := Chg.size hE428
     obtain ⟨_, hx429, rfl⟩ := hgk427.val 3 24 rfl rfl
     exact OpR.op' rfl (Yl.sameG (yl_move rfl hx429 kI))
    ·intro L431 w432 G430 hgk433
     have hE434 : Chg (fun b => InR [(b22, b22 + 1)] b ∨ w189.heap.size ≤ b) w189 w432 := hgk433.st.ex.imp (fun b _ h => h.imp (fun h => h.2) (fun h => h))
     have hE434z := Chg.size hE434
     obtain ⟨_, hx435, rfl⟩ := hgk433.val 4 25 rfl rfl
     exact OpR.skip rfl rfl hx435 hb210 ⟨Chg.refl _ _, rfl⟩
    ·intro L437 w438 G436 hgk439
     have hE440 : Chg (fun b => InR [(b22, b22 + 1)] b ∨ w189.heap.size ≤ b) w189 w438 := hgk439.st.ex.imp (fun b _ h => h.imp (fun h => h.2) (fun h => h))
     have hE440z := Chg.size hE440
     obtain ⟨_, hx441, rfl⟩ := hgk439.val 4 25 rfl rfl
     exact OpR.skip rfl rfl hx441 hb210 ⟨Chg.refl _ _, rfl⟩
    ·intro L443 w444 G442 hgk445
     have hE446 : Chg (fun b => InR [(b22, b22 + 1)] b ∨ w189.heap.size ≤ b) w189 w444 := hgk445.st.ex.imp (fun b _ h => h.imp (fun h => h.2) (fun h => h))
     have hE446z := Chg.size hE446
     obtain ⟨_, hx447, rfl⟩ := hgk445.val 4 25 rfl rfl
     exact OpR.skip rfl rfl hx447 hb210 ⟨Chg.refl _ _, rfl⟩
    ·intro L449 w450 G448 hgk451
     have hE452 : Chg (fun b => InR [(b22, b22 + 1)] b ∨ w189.heap.size ≤ b) w189 w450 := hgk451.st.ex.imp (fun b _ h => h.imp (fun h => h.2) (fun h => h))
     have hE452z := Chg.size hE452
     obtain ⟨_, hx453, rfl⟩ := hgk451.val 4 25 rfl rfl
     exact OpR.skip rfl rfl hx453 hb210 ⟨Chg.refl _ _, rfl⟩
    ·intro L455 w456 G454 hgk457
     have hE458 : Chg (fun b => InR [(b22, b22 + 1)] b ∨ w189.heap.size ≤ b) w189 w456 := hgk457.st.ex.imp (fun b _ h => h.imp (fun h => h.2) (fun h => h))
     have hE458z := Chg.size hE458
     obtain ⟨_, hx459, rfl⟩ := hgk457.val 4 25 rfl rfl
     exact OpR.skip rfl rfl hx459 hb210 ⟨Chg.refl _ _, rfl⟩
    ·intro L461 w462 G460 hgk463
     have hE464 : Chg (fun b => InR [(b22, b22 + 1)] b ∨ w189.heap.size ≤ b) w189 w462 := hgk463.st.ex.imp (fun b _ h => h.imp (fun h => h.2) (fun h => h))
     have hE464z := Chg.size hE464
     obtain ⟨_, hx465, rfl⟩ := hgk463.val 9 30 rfl rfl
     obtain ⟨_, hx466, rfl⟩ := hgk463.val 4 25 rfl rfl
     exact OpR.op' rfl (Yl.sameG (yl_pick_f rfl hx466 hb210 rfl kI))
    ·intro L468 w469 G467 hgk470
     have hE471 := hgk470.st.ex.ex (fun b h => h.elim (fun h => (Bool.false_ne_true (hgk470.new.symm.trans h.1)).elim) (fun h => h))
     have hE471z := Ex.size hE471
     obtain ⟨_, hx473, rfl⟩ := hgk470.val 0 21 rfl rfl
     refine OpR.op' rfl (yl_store (vs := [.slice A43_173 ((([(p_w.Key.drop 2)] : List Str) ++ (s_l1Split p_w.Val 44)).length) c44_174]) ty80 rfl (hgk470.old 4 _ rfl rfl) hx473 rfl rfl rfl (Box.ex (Box.only (Box.ex hB26 hE157) hO191 (by omega)) hE471) (Nat.le_of_ble_eq_true rfl) ?_)
     intro w477 hB478 hO479
     have hO479z := hO479.size
     exact ⟨Chg.of_only hO479 (⟨rfl, Nat.le_refl _, by omega⟩), hB478⟩
    ·intro L481 w482 G480 hgk483
     have hE484 : Chg (fun b => InR [(b22, b22 + 1)] b ∨ w189.heap.size ≤ b) w189 w482 := hgk483.st.ex.imp (fun b _ h => h.imp (fun h => h.2) (fun h => h))
     have hE484z := Chg.size hE484
     obtain ⟨_, hx485, rfl⟩ := hgk483.val 10 31 rfl rfl
     exact OpR.op' rfl (Yl.sameG (yl_assign rfl hx485 kI))
    ·intro G486 L487 w488 hgp489
     have hE490 : Chg (fun b => InR [(b22, b22 + 1)] b ∨ w189.heap.size ≤ b) w189 w488 := hgp489.st.ex.imp (fun b _ h => h.imp (fun h => h.2) (fun h => h))
     have hE490z := Chg.size hE490
     obtain ⟨_, h492⟩ := hgp489.fact 11 rfl
     obtain ⟨_, hx493, rfl⟩ := hgp489.val 12 5 rfl rfl
     have hr494 := hgp489.st.rng 11 (hgp489.has 11 rfl)
     refine dn (CW.sub (Sub.cons (d := 4) (hgp489.old 4 _ rfl rfl) (Sub.cons (d := 5) hx493 (Sub.nil _))) (CW.ret (rr rfl (.cons ⟨_, rfl, run_loadN ty80 (cs := [.slice A43_173 ((([(p_w.Key.drop 2)] : List Str) ++ (s_l1Split p_w.Val 44)).length) c44_174]) rfl (h492.cells (n := 1) rfl)⟩ (.cons rfl .nil)) ?_)))
     have hM495 : (s_l25Read p_t p_w) = (((⟨(([(p_w.Key.drop 2)] : List Str) ++ (s_l1Split p_w.Val 44))⟩ : DRow), false)) := by simp only [s_l25Read, hb29, hb210, cL]
     have hol497 : (s_l1Split p_w.Val 44).length ≤ 2147483648 := (okL_l1Split o4.2).1
     rw [hM495]
     exact ⟨A43_173, c44_174, (G153.fl 7), (G153.fh 7), rfl, (OwnL.chg good_Str q384 hE490 (fun k hl hk => by simp only [InR, or_false] at hk; omega)), (okL.mk (xs := (([(p_w.Key.drop 2)] : List Str) ++ (s_l1Split p_w.Val 44))) (by first | omega | (simp only [List.length_append, List.length_cons, List.length_nil, List.length_take, List.length_drop, List.length_replicate, List.length_set, toS_length]; omega)) (okE.append ((okL.mk (Nat.le_of_ble_eq_true rfl) (okE.cons (okS.drop o4.1 _) okE.nil))).2 ((okL_l1Split o4.2)).2)), (by omega), (Ex.chg (Below.only (Ex.trans (Ex.trans (Ex.trans (Ex.trans (Ex.refl w) hE15) hE21) hE27) hE157) hO191 (by omega)) hE490 (fun k hk => by simp only [InR, or_false] at hk; omega))⟩
theorem c_s_l25Rows {A1 : Option Addr} {c1 : Nat} {A2 : Option Addr} {c2 : Nat} {A4 : Option Addr} {c4 : Nat} {w : World} (p_t : DTable) (p_store : List DWrite) (h1 : RdS w (Iv 0 w.heap.size) (RF e_Str) 1 A1 p_t.Cols.length c1 p_t.Cols) (h2 : RdS w (Iv 0 w.heap.size) (RF e_Idx) 3 A2 p_t.Idxs.length c2 p_t.Idxs) (h4 : RdS w (Iv 0 w.heap.size) (RF e_Write) 3 A4 p_store.length c4 p_store) (o3 : ok_Table p_t) (o5 : (okL ok_Write) p_store) : Cal Tryz.prog 28 #[.agg #[.string (bs (p_t.Name)), .slice A1 p_t.Cols.length c1, .slice A2 p_t.Idxs.length c2], .slice A4 p_store.length c4] w fun v w' => ∃ A_1 c_1 lo_1 hi_1, v = .slice A_1 ((s_l25Rows p_t p_store).length) c_1 ∧ OwnD w' lo_1 hi_1 80 1 RO_Row A_1 ((s_l25Rows p_t p_store).length) c_1 (s_l25Rows p_t p_store) ∧ (okL ok_Row) (s_l25Rows p_t p_store) ∧ (w.heap.size ≤ lo_1 ∧ lo_1 ≤ hi_1 ∧ hi_1 ≤ w'.heap.size) ∧ Ex w w' := by
 have hol6 : p_t.Name.length ≤ 1073741824 := o3.1
 have hol7 := o3.2.1.1
 have hol8 := o3.2.2.1
 have hol9 := o5.1
 refine Cal.of func28 rfl ntmps28 rfl (CW.seq (CW.region (sd rfl (yl_box rfl rfl rfl ?_))))
 intro b10 w11 hs12 hz13 hB14 hE15
 refine sd rfl (yl_assign rfl rfl (dn (CW.seq (CW.region (sd rfl (yl_assign rfl rfl (dn (CW.seq ?_))))))))
 refine CW.seq (CW.region (sd rfl (yl_move rfl rfl (sd rfl (yl_len un36 rfl rfl (sd rfl (yl_move rfl rfl (dn (CW.block (CW.loop (fun m102 L103 w104 => ∃ (k16 : Nat) (x98 : List DRow) (A99 : Option Addr) (c100 : Nat) (u101 : Nat), m102 = p_store.length - k16 ∧ k16 ≤ p_store.length ∧ w11.heap.size ≤ w104.heap.size ∧ lkp L103 2 = some (.pointer (some ⟨b10, 0, none⟩)) ∧ lkp L103 5 = some (.slice A99 x98.length c100) ∧ lkp L103 10 = some (.slice A4 p_store.length c4) ∧ lkp L103 11 = some (.int .i64 ((p_store.length : Int))) ∧ lkp L103 12 = some (.int .i64 ((k16 : Int))) ∧ Box w104 b10 34 [.string (bs (p_t.Name)), .slice A1 p_t.Cols.length c1, .slice A2 p_t.Idxs.length c2] ∧ RdS w104 (Iv 0 w.heap.size) (RF e_Str) 1 A1 p_t.Cols.length c1 p_t.Cols ∧ RdS w104 (Iv 0 w.heap.size) (RF e_Idx) 3 A2 p_t.Idxs.length c2 p_t.Idxs ∧ OwnD w104 w11.heap.size u101 80 1 RO_Row A99 x98.length c100 x98 ∧ RdS w104 (Iv 0 w.heap.size) (RF e_Write) 3 A4 p_store.length c4 p_store ∧ Ex w w104 ∧ (w11.heap.size ≤ u101 ∧ u101 ≤ w104.heap.size) ∧ x98.length ≤ 0 + 1 * (k16 - 0) ∧ (∀ y ∈ x98, ok_Row y) ∧ loopM (B_s_l25Rows_0 p_t p_store) (p_store.length - k16) k16 (x98) = loopM (B_s_l25Rows_0 p_t p_store) (p_store.length - 0) 0 (([] : List DRow))) (p_store.length - 0) ?_ ?_))))))))))
 ·exact ⟨0, ([] : List DRow), none, 0, w11.heap.size, rfl, (by omega), Nat.le_refl _, rfl, rfl, rfl, rfl, rfl, hB14, (RdS.ex good_Str h1 hE15), (RdS.ex good_Idx h2 hE15), (OwnD.nil w11 w11.heap.size w11.heap.size 80 1 RO_Row), (RdS.ex good_Write h4 hE15), (Ex.trans (Ex.refl w) hE15), (by omega), (by first | (simp; done) | (first | omega | (simp only [List.length_append, List.length_cons, List.length_nil, List.length_set, toS_length]; omega))), okE.nil, rfl⟩
 ·rintro m109 L110 w111 ⟨k16, x98, A99, c100, u101, rfl, hk112, hsz114, hl115, hl116, hl117, hl118, hl119, hf120, hf121, hf122, hf123, hf124, hf125, hu126, hln127, hok128, hI113⟩
  refine CW.sub (Sub.cons hl115 (Sub.cons hl116 (Sub.cons hl117 (Sub.cons hl118 (Sub.cons hl119 (Sub.nil _)))))) ?_
  have hf120z := Box.lt hf120
  have hf125z := Ex.size hf125
  have hbg129 := RdS.big hf124
  rcases Nat.lt_or_ge k16 p_store.length with hlt130 | hlt130
  ·refine CW.seq (CW.region (sd rfl (yl_lss rfl rfl rfl (dn (CW.seq (CW.cond_t rfl (lt_t hlt130) (CW.skip (tn ?_))))))))
   refine CW.seq (CW.block (CW.seq (CW.region ?_)))
   obtain ⟨eb131, eo131, _, eA131, _, ebl131, _, eR131, eC131⟩ := RdS.aD hf124 d_Write (i := k16)
   obtain rfl := eR131
   have eC131 : Cells w111 eb131 (eo131 + k16 * 3) [.string (bs ((p_store.getD k16 d_Write).Key)), .string (bs ((p_store.getD k16 d_Write).Val)), .bool ((p_store.getD k16 d_Write).Gone)] := eC131
   refine sd rfl (yl_ixN un36 ty75 rfl rfl rfl eA131 (sd rfl (yl_loadN ty75 rfl rfl eC131 rfl (sd rfl (yl_alloc ty75 (cs := [.string (bs (([] : Str))), .string (bs (([] : Str))), .bool (false)]) rfl rfl ?_)))))
   intro b132 w133 hs134 hz135 hB136 hE137
   refine SeqR.u rfl rfl (yl_store (vs := [.string (bs ((p_store.getD k16 d_Write).Key)), .string (bs ((p_store.getD k16 d_Write).Val)), .bool ((p_store.getD k16 d_Write).Gone)]) ty75 rfl rfl rfl rfl rfl rfl hB136 (Nat.le_of_ble_eq_true rfl) ?_)
   intro w138 hB139 hO140
   have hB139 : Box w138 b132 75 [.string (bs ((p_store.getD k16 d_Write).Key)), .string (bs ((p_store.getD k16 d_Write).Val)), .bool ((p_store.getD k16 d_Write).Gone)] := hB139
   have hO140z := hO140.size
   refine dn (CW.seq (CW.region ?_))
   have q142 := Box.only (Box.ex hf120 hE137) hO140 (by omega)
   refine sd rfl (yl_loadN ty34 rfl rfl (q142.cells (n := 3) rfl) rfl (sd rfl (yl_loadN ty75 rfl rfl (hB139.cells (n := 3) rfl) rfl ?_)))
   have q144 := RdS.only good_Str (RdS.ex good_Str hf121 hE137) hO140 (by simp only [Iv]; omega)
   have q146 := RdS.only good_Idx (RdS.ex good_Idx hf122 hE137) hO140 (by simp only [Iv]; omega)
   refine sd rfl (yl_call en63 rfl (oc rfl (oc rfl oz)) (Cal.mono (c_s_l25Read p_t (p_store.getD k16 d_Write) (RdS.up q144 good_Str) (RdS.up q146 good_Idx) o3 (okL.getD o5 ok_d_Write _)) ?_))
   rintro v150 w147 ⟨A148, c148, lo148, hi148, rfl, h148, ho149, hrn152, hE151⟩
   have hE151z := Ex.size hE151
   refine sd rfl (yl_move rfl rfl (sd rfl (yl_extract rfl rfl rfl (sd rfl (yl_extract rfl rfl rfl (sd rfl (yl_alloc ty80 (cs := [.slice none 0 0]) rfl rfl ?_)))))))
   intro b153 w154 hs155 hz156 hB157 hE158
   refine SeqR.u rfl rfl (yl_store (vs := [.slice A148 (((s_l25Read p_t (p_store.getD k16 d_Write)).1.Vals).length) c148]) ty80 rfl rfl rfl rfl rfl rfl hB157 (Nat.le_of_ble_eq_true rfl) ?_)
   intro w159 hB160 hO161
   have hB160 : Box w159 b153 80 [.slice A148 (((s_l25Read p_t (p_store.getD k16 d_Write)).1.Vals).length) c148] := hB160
   have hO161z := hO161.size
   refine sd rfl (yl_assign rfl rfl (dn (CW.seq (CW.region (sd rfl (yl_move rfl rfl (dn (bcase ((s_l25Read p_t (p_store.getD k16 d_Write)).2) (fun hb162 => ?_) (fun hb162 => ?_)))))))))
   ·refine CW.cond_t rfl hb162 (CW.region (sd rfl (yl_move rfl rfl (sd rfl (yl_loadN ty80 rfl rfl (hB160.cells (n := 1) rfl) rfl (sd rfl (yl_buildSlice (cs := [.slice A148 (((s_l25Read p_t (p_store.getD k16 d_Write)).1.Vals).length) c148]) un29 ty80 (by decide) rfl (oc rfl oz) (by kernel_rfl) ?_)))))))
    intro b163 w164 hs165 hz166 hB167 hE168
    have hO169 : OwnD w164 w138.heap.size (b163 + 1) 80 1 RO_Row (some ⟨b163, 0, none⟩) 1 1 ([(s_l25Read p_t (p_store.getD k16 d_Write)).1] : List DRow) := OwnD.of_box (b := b163) (xs := ([(s_l25Read p_t (p_store.getD k16 d_Write)).1] : List DRow)) (cells := [[.slice A148 (((s_l25Read p_t (p_store.getD k16 d_Write)).1.Vals).length) c148]]) (by rw [List.flatten_singleton]; exact hB167) (by omega) (Nat.lt_succ_self _) (.cons (l := w138.heap.size) (h := b163) (Nat.le_refl _) (by omega) rfl (fun k hk => by cases hk; exact .inr (Nat.le_refl _)) (mkO_Row (l := w138.heap.size) (h := b163) (OwnL.ex good_Str (OwnL.only good_Str (OwnL.ex good_Str h148 hE158) hO161 (by omega)) hE168) (by omega)) (.nil (Nat.le_succ _))) (Nat.le_of_ble_eq_true rfl)
    refine sd rfl (yl_appendD (xs := x98) (ys := ([(s_l25Read p_t (p_store.getD k16 d_Write)).1] : List DRow)) goodO_Row un29 ty80 rfl (Nat.le_of_ble_eq_true rfl) rfl rfl rfl (OwnD.ex goodO_Row (OwnD.only goodO_Row (OwnD.ex goodO_Row (OwnD.ex goodO_Row (OwnD.only goodO_Row (OwnD.ex goodO_Row hf123 hE137) hO140 (by omega)) hE151) hE158) hO161 (by omega)) hE168) hO169 (by first | omega | (simp only [List.length_append, List.length_cons, List.length_nil, List.length_take, List.length_drop, List.length_replicate, List.length_set, toS_length]; omega)) (by first | omega | (simp only [List.length_append, List.length_cons, List.length_nil, List.length_take, List.length_drop, List.length_replicate, List.length_set, toS_length]; omega)) (by omega) (by omega) (by omega) (by omega) ?_)
    intro A178 c179 w180 row181 hO182 hG183 hrg184
    have hG183z := hG183.size
    refine sd rfl (yl_assign rfl rfl (SeqR.done (bn (tn (CW.region (sd rfl (yl_inc rfl rfl rfl (by omega) (sd rfl (yl_move rfl rfl (dn ?_))))))))))
    have hB185 : B_s_l25Rows_0 p_t p_store k16 (x98) = .cont ((x98 ++ ([(s_l25Read p_t (p_store.getD k16 d_Write)).1] : List DRow))) := by simp only [B_s_l25Rows_0, hb162, cL]
    exact ⟨p_store.length - (k16 + 1), by omega, k16 + 1, (x98 ++ ([(s_l25Read p_t (p_store.getD k16 d_Write)).1] : List DRow)), A178, c179, w180.heap.size, rfl, hlt130, (by omega), rfl, rfl, rfl, rfl, rfl, (Box.grown (Box.ex (Box.only (Box.ex (Box.ex q142 hE151) hE158) hO161 (by omega)) hE168) hG183 (fun k hk => by have := hrg184 k hk; omega)), (RdS.grown good_Str (RdS.ex good_Str (RdS.only good_Str (RdS.ex good_Str (RdS.ex good_Str q144 hE151) hE158) hO161 (by simp only [Iv]; omega)) hE168) hG183 (fun k hk => by have := hrg184 k hk; simp only [Iv]; omega)), (RdS.grown good_Idx (RdS.ex good_Idx (RdS.only good_Idx (RdS.ex good_Idx (RdS.ex good_Idx q146 hE151) hE158) hO161 (by simp only [Iv]; omega)) hE168) hG183 (fun k hk => by have := hrg184 k hk; simp only [Iv]; omega)), hO182, (RdS.grown good_Write (RdS.ex good_Write (RdS.only good_Write (RdS.ex good_Write (RdS.ex good_Write (RdS.only good_Write (RdS.ex good_Write hf124 hE137) hO140 (by simp only [Iv]; omega)) hE151) hE158) hO161 (by simp only [Iv]; omega)) hE168) hG183 (fun k hk => by have := hrg184 k hk; simp only [Iv]; omega)), (Below.grown (Ex.trans (Below.only (Ex.trans (Ex.trans (Below.only (Ex.trans hf125 hE137) hO140 (by omega)) hE151) hE158) hO161 (by omega)) hE168) hG183 (by omega) (fun k hk => by have := hrg184 k hk; omega)), (by omega), (by first | omega | (simp only [List.length_append, List.length_cons, List.length_nil, List.length_set, toS_length]; omega)), (okE.append hok128 ((okL.mk (Nat.le_of_ble_eq_true rfl) (okE.cons ho149 okE.nil))).2), (loopM.cont hlt130 hB185).symm.trans hI113⟩
   ·refine CW.cond_f rfl hb162 (CW.skip (bn (tn (CW.region (sd rfl (yl_inc rfl rfl rfl (by omega) (sd rfl (yl_move rfl rfl (dn ?_)))))))))
    have hB215 : B_s_l25Rows_0 p_t p_store k16 (x98) = .cont (x98) := by simp only [B_s_l25Rows_0, hb162, cL]
    exact ⟨p_store.length - (k16 + 1), by omega, k16 + 1, x98, A99, c100, u101, rfl, hlt130, (by omega), rfl, rfl, rfl, rfl, rfl, (Box.only (Box.ex (Box.ex q142 hE151) hE158) hO161 (by omega)), (RdS.only good_Str (RdS.ex good_Str (RdS.ex good_Str q144 hE151) hE158) hO161 (by simp only [Iv]; omega)), (RdS.only good_Idx (RdS.ex good_Idx (RdS.ex good_Idx q146 hE151) hE158) hO161 (by simp only [Iv]; omega)), (OwnD.only goodO_Row (OwnD.ex goodO_Row (OwnD.ex goodO_Row (OwnD.only goodO_Row (OwnD.ex goodO_Row hf123 hE137) hO140 (by omega)) hE151) hE158) hO161 (by omega)), (RdS.only good_Write (RdS.ex good_Write (RdS.ex good_Write (RdS.only good_Write (RdS.ex good_Write hf124 hE137) hO140 (by simp only [Iv]; omega)) hE151) hE158) hO161 (by simp only [Iv]; omega)), (Below.only (Ex.trans (Ex.trans (Below.only (Ex.trans hf125 hE137) hO140 (by omega)) hE151) hE158) hO161 (by omega)), (by omega), (by first | omega | (simp only [List.length_append, List.length_cons, List.length_nil, List.length_set, toS_length]; omega)), hok128, (loopM.cont hlt130 hB215).symm.trans hI113⟩
  ·refine CW.seq (CW.region (sd rfl (yl_lss rfl rfl rfl (dn (CW.seq (CW.cond_f rfl (lt_f hlt130) (CW.exit (tx ?_))))))))
   refine tx ?_
   have hL240 : loopM (B_s_l25Rows_0 p_t p_store) (p_store.length - 0) 0 (([] : List DRow)) = .done (x98) := hI113.symm.trans (loopM.stop hlt130)
   refine bx (tn (CW.seq (CW.region (sd rfl (yl_move rfl rfl (sd rfl (yl_assign rfl rfl (dn (CW.ret ?_)))))))))
   refine rr rfl (.cons rfl .nil) ?_
   have hM241 : (s_l25Rows p_t p_store) = (x98) := by simp only [s_l25Rows, hL240, cL]
   rw [hM241]
   exact ⟨A99, c100, w11.heap.size, u101, rfl, hf123, (okL.mk (xs := x98) (by first | omega | (simp only [List.length_append, List.length_cons, List.length_nil, List.length_take, List.length_drop, List.length_replicate, List.length_set, toS_length]; omega)) hok128), (by omega), hf125⟩
theorem c_s_l25ReadEntry {A1 : Option Addr} {c1 : Nat} {A2 : Option Addr} {c2 : Nat} {w : World} (p_t : DTable) (p_name : Str) (p_key : Str) (h1 : RdS w (Iv 0 w.heap.size) (RF e_Str) 1 A1 p_t.Cols.length c1 p_t.Cols) (h2 : RdS w (Iv 0 w.heap.size) (RF e_Idx) 3 A2 p_t.Idxs.length c2 p_t.Idxs) (o3 : ok_Table p_t) (o4 : okS p_name) (o5 : okS p_key) : Cal Tryz.prog 108 #[.agg #[.string (bs (p_t.Name)), .slice A1 p_t.Cols.length c1, .slice A2 p_t.Idxs.length c2], .string (bs (p_name)), .string (bs (p_key))] w fun v w' => v = .tuple #[.string (bs ((s_l25ReadEntry p_t p_name p_key).1)), .string (bs ((s_l25ReadEntry p_t p_name p_key).2.1)), .bool ((s_l25ReadEntry p_t p_name p_key).2.2)] ∧ okS ((s_l25ReadEntry p_t p_name p_key).1) ∧ okS ((s_l25ReadEntry p_t p_name p_key).2.1) ∧ Ex w w' := by
 have hol6 : p_t.Name.length ≤ 1073741824 := o3.1
 have hol7 := o3.2.1.1
 have hol8 := o3.2.2.1
 have hol9 : p_name.length ≤ 1073741824 := o4
 have hol10 : p_key.length ≤ 1073741824 := o5
 refine Cal.of func108 rfl ntmps108 rfl (CW.seq (CW.region (sd rfl (yl_box rfl rfl rfl ?_))))
 intro b11 w12 hs13 hz14 hB15 hE16
 refine sd rfl (yl_assign rfl rfl (sd rfl (yl_assign rfl rfl (sd rfl (yl_assign rfl rfl (dn (CW.seq (CW.region (sd rfl (yl_move rfl rfl (sd rfl (yl_call en95 rfl (oc rfl (oc rfl oz)) (Cal.mono (c_s_l1Split p_key 47 o5) ?_)))))))))))))
 rintro v19 w17 ⟨A18, c18, lo18, hi18, rfl, h18, hrn21, hE20⟩
 have hE20z := Ex.size hE20
 have hrf22 := rf_l1Split p_key 47
 refine sd rfl (yl_assign rfl rfl (dn (CW.seq (CW.seq (bcase (decide (((s_l1Split p_key 47).length : Int) = 3)) (fun hb23 => ?_) (fun hb23 => ?_))))))
 ·have hb23p := dec_t hb23
  obtain ⟨eb25, eo25, _, eA25, _, ebl25, _, eR25, eC25⟩ := RdS.aD (OwnL.rd good_Str h18) d_Str (i := 0)
  obtain rfl := eR25
  have eC25 : Cells w17 eb25 (eo25 + 0 * 1) [.string (bs (((s_l1Split p_key 47).getD 0 d_Str)))] := eC25
  have hol27 : p_t.Name.length ≤ 1073741824 := o3.1
  have hol28 : p_t.Name.length ≤ 1073741824 := o3.1
  have hol29 : p_name.length ≤ 1073741824 := o4
  refine CW.drawsI 12 (vgetI ([.slice A18 ((s_l1Split p_key 47).length) c18, .int .i64 (((s_l1Split p_key 47).length : Int)), .bool (!(decide (((s_l1Split p_key 47).length : Int) = 3))), .bool (!(decide (((s_l1Split p_key 47).length : Int) = 3))), .slice A18 ((s_l1Split p_key 47).length) c18, .pointer (some ⟨eb25, eo25 + 0 * 1, none⟩), .string (bs (((s_l1Split p_key 47).getD 0 d_Str))), .pointer (some ⟨b11, 0 + 0, none⟩), .string (bs (p_t.Name)), .string (bs (p_t.Name ++ ([46] : Str))), .string (bs (p_name)), .string (bs ((p_t.Name ++ ([46] : Str)) ++ p_name))].map DetI)) Tryz.follows rfl rfl rfl rfl rfl rfl (vgetI_stable (stD _)) ⟨?_, ?_, ?_, ?_, ?_, ?_, ?_, ?_, ?_, ?_, ?_, ?_, trivial⟩ ?_
  ·exact oI rfl fun h => yl_move rfl (h.old 9 _ rfl rfl) kI
  ·exact oI rfl fun h => yl_len un22 rfl (h.dt 0 12 rfl rfl rfl) kI
  ·exact oI rfl fun h => yl_neq rfl (h.dt 1 13 rfl rfl rfl) rfl kI
  ·exact oI rfl fun h => yl_move rfl (h.dt 2 14 rfl rfl rfl) kI
  ·exact oW rfl rfl rfl rfl (not_t hb23) fun h => yl_move rfl (h.old 9 _ rfl rfl) kI
  ·intro L56 w57 hi58
   have hE59 := hi58.ex
   have hE59z := Ex.size hE59
   exact OpR.want rfl rfl (hi58.dt 3 15 rfl rfl rfl) (not_t hb23) (Yl.sameI (yl_ixN un22 ty9 rfl (hi58.dt 4 16 rfl rfl rfl) rfl eA25 kI))
  ·exact oW rfl rfl rfl rfl (not_t hb23) fun h => yl_load1 ty9 rfl (h.dt 5 17 rfl rfl rfl) ((Cells.ex eC25 h.ex) 0 _ rfl) kI
  ·exact oW rfl rfl rfl rfl (not_t hb23) fun h => yl_fieldAddr fd34_0 rfl (h.old 3 _ rfl rfl) kI
  ·exact oW rfl rfl rfl rfl (not_t hb23) fun h => yl_load1 ty9 rfl (h.dt 7 19 rfl rfl rfl) (((Box.ex (Box.ex hB15 hE20) h.ex).cell 0).trans rfl) kI
  ·intro L82 w83 hi84
   have hE85 := hi84.ex
   have hE85z := Ex.size hE85
   have hol88 : p_t.Name.length ≤ 1073741824 := o3.1
   exact OpR.want rfl rfl (hi84.dt 3 15 rfl rfl rfl) (not_t hb23) (Yl.sameI (yl_sadd (a := p_t.Name) (b := ([46] : Str)) rfl (hi84.dt 8 20 rfl rfl rfl) rfl (by first | omega | (simp only [List.length_append, List.length_cons, List.length_nil, List.length_take, List.length_drop, toS_length]; omega)) kI))
  ·exact oW rfl rfl rfl rfl (not_t hb23) fun h => yl_move rfl (h.old 1 _ rfl rfl) kI
  ·intro L95 w96 hi97
   have hE98 := hi97.ex
   have hE98z := Ex.size hE98
   have hol102 : p_t.Name.length ≤ 1073741824 := o3.1
   have hol103 : p_name.length ≤ 1073741824 := o4
   exact OpR.want rfl rfl (hi97.dt 3 15 rfl rfl rfl) (not_t hb23) (Yl.sameI (yl_sadd (a := (p_t.Name ++ ([46] : Str))) (b := p_name) rfl (hi97.dt 9 21 rfl rfl rfl) (hi97.dt 10 22 rfl rfl rfl) (by first | omega | (simp only [List.length_append, List.length_cons, List.length_nil, List.length_take, List.length_drop, toS_length]; omega)) kI))
  ·intro fl107 fh108 L104 w105 hp106
   have hE109 := hp106.ex
   have hE109z := Ex.size hE109
   have hx110 := hp106.old 9 _ rfl rfl
   have hx111 := hp106.nt 3 15 rfl rfl rfl
   refine sy rfl hx111 (not_t hb23) (yl_sneq (a := ((s_l1Split p_key 47).getD 0 d_Str)) (b := ((p_t.Name ++ ([46] : Str)) ++ p_name)) rfl (hp106.nt 6 18 rfl rfl rfl) (hp106.nt 11 23 rfl rfl rfl) (sd rfl (yl_pick_f rfl hx111 (not_t hb23) rfl (sd rfl (yl_move rfl rfl (bcase (((s_l1Split p_key 47).getD 0 d_Str) == ((p_t.Name ++ ([46] : Str)) ++ p_name)) (fun hb114 => ?_) (fun hb114 => ?_)))))))
   ·refine sy rfl rfl (not_t hb114) (yl_move rfl hx110 ?_)
    have q116 := OwnL.ex good_Str h18 hE109
    obtain ⟨eb117, eo117, _, eA117, _, ebl117, _, eR117, eC117⟩ := RdS.aD (OwnL.rd good_Str q116) d_Str (i := 1)
    obtain rfl := eR117
    have eC117 : Cells w105 eb117 (eo117 + 1 * 1) [.string (bs (((s_l1Split p_key 47).getD 1 d_Str)))] := eC117
    refine sy rfl rfl (not_t hb114) (yl_ixN un22 ty9 rfl rfl rfl eA117 (sy rfl rfl (not_t hb114) (yl_load1 ty9 rfl rfl (eC117 0 _ rfl) (sy rfl rfl (not_t hb114) (yl_call en127 rfl (oc rfl oz) (Cal.mono (c_s_l25Field ((s_l1Split p_key 47).getD 1 d_Str) (okS_l1Split o5 _ _)) ?_))))))
    rintro v119 w118 ⟨rfl, hE120⟩
    have hE120z := Ex.size hE120
    refine sy rfl rfl (not_t hb114) (yl_not rfl rfl (sd rfl (yl_pick_f rfl rfl (not_t hb114) rfl (sd rfl (yl_move rfl rfl (bcase (s_l25Field ((s_l1Split p_key 47).getD 1 d_Str)) (fun hb121 => ?_) (fun hb121 => ?_)))))))
    ·refine sy rfl rfl (not_t hb121) (yl_move rfl hx110 ?_)
     obtain ⟨eb124, eo124, _, eA124, _, ebl124, _, eR124, eC124⟩ := RdS.atD (OwnL.rd good_Str (OwnL.ex good_Str q116 hE120)) d_Str (i := 2) (by first | omega | assumption)
     obtain rfl := eR124
     have eC124 : Cells w118 eb124 (eo124 + 2 * 1) [.string (bs (((s_l1Split p_key 47).getD 2 d_Str)))] := eC124
     refine sy rfl rfl (not_t hb121) (yl_ixN un22 ty9 rfl rfl rfl eA124 (sy rfl rfl (not_t hb121) (yl_load1 ty9 rfl rfl (eC124 0 _ rfl) (sy rfl rfl (not_t hb121) (yl_call en127 rfl (oc rfl oz) (Cal.mono (c_s_l25Field ((s_l1Split p_key 47).getD 2 d_Str) (okS_l1Split o5 _ _)) ?_))))))
     rintro v126 w125 ⟨rfl, hE127⟩
     have hE127z := Ex.size hE127
     refine sy rfl rfl (not_t hb121) (yl_not rfl rfl (sd rfl (yl_pick_f rfl rfl (not_t hb121) rfl (dn (CW.sub (Sub.cons (d := 9) hx110 (Sub.cons (d := 39) rfl (Sub.nil _))) (bcase (s_l25Field ((s_l1Split p_key 47).getD 2 d_Str)) (fun hb128 => ?_) (fun hb128 => ?_)))))))
     ·refine CW.cond_f rfl (not_t hb128) (CW.skip (tn (CW.seq (CW.drawsI 9 (vgetI ([.slice A18 ((s_l1Split p_key 47).length) c18, .pointer (some ⟨eb117, eo117 + 1 * 1, none⟩), .string (bs (((s_l1Split p_key 47).getD 1 d_Str))), .slice A18 ((s_l1Split p_key 47).length) c18, .pointer (some ⟨eb124, eo124 + 2 * 1, none⟩), .string (bs (((s_l1Split p_key 47).getD 2 d_Str))), .string (bs (((s_l1Split p_key 47).getD 1 d_Str))), .string (bs (((s_l1Split p_key 47).getD 2 d_Str))), .bool (true)].map DetI)) Tryz.follows rfl rfl rfl rfl rfl rfl (vgetI_stable (stD _)) ⟨?_, ?_, ?_, ?_, ?_, ?_, ?_, ?_, ?_, trivial⟩ ?_))))
      ·exact oI rfl fun h => yl_move rfl (h.old 9 _ rfl rfl) kI
      ·intro L137 w138 hi139
       have hE140 := hi139.ex
       have hE140z := Ex.size hE140
       exact os rfl ((yl_ixN un22 ty9 rfl (hi139.dt 0 40 rfl rfl rfl) rfl eA117 kI))
      ·exact oI rfl fun h => yl_load1 ty9 rfl (h.dt 1 41 rfl rfl rfl) ((Cells.ex (Cells.ex (Cells.ex eC117 hE120) hE127) h.ex) 0 _ rfl) kI
      ·exact oI rfl fun h => yl_move rfl (h.old 9 _ rfl rfl) kI
      ·intro L153 w154 hi155
       have hE156 := hi155.ex
       have hE156z := Ex.size hE156
       exact os rfl ((yl_ixN un22 ty9 rfl (hi155.dt 3 43 rfl rfl rfl) rfl eA124 kI))
      ·exact oI rfl fun h => yl_load1 ty9 rfl (h.dt 4 44 rfl rfl rfl) ((Cells.ex (Cells.ex eC124 hE127) h.ex) 0 _ rfl) kI
      ·exact oI rfl fun h => yl_assign rfl (h.dt 2 42 rfl rfl rfl) kI
      ·exact oI rfl fun h => yl_assign rfl (h.dt 5 45 rfl rfl rfl) kI
      ·exact oI rfl fun _ => yl_assign rfl rfl kI
      ·intro fl181 fh182 L178 w179 hp180
       have hE183 := hp180.ex
       have hE183z := Ex.size hE183
       refine dn (CW.sub (Sub.cons (d := 6) (hp180.nt 6 6 rfl rfl rfl) (Sub.cons (d := 7) (hp180.nt 7 7 rfl rfl rfl) (Sub.cons (d := 8) (hp180.nt 8 8 rfl rfl rfl) (Sub.nil _)))) (CW.ret (rr rfl (.cons rfl (.cons rfl (.cons rfl .nil))) ?_)))
       have hM187 : (s_l25ReadEntry p_t p_name p_key) = ((((s_l1Split p_key 47).getD 1 d_Str), ((s_l1Split p_key 47).getD 2 d_Str), true)) := by simp only [s_l25ReadEntry, hb23, hb114, hb121, hb128, cL]
       rw [hM187]
       exact ⟨rfl, (okS_l1Split o5 _ _), (okS_l1Split o5 _ _), (Ex.trans (Ex.trans (Ex.trans (Ex.trans (Ex.trans (Ex.trans (Ex.refl w) hE16) hE20) hE109) hE120) hE127) hE183)⟩
     ·refine CW.cond_t rfl (not_f hb128) (CW.seq (CW.region (sd rfl (yl_assign rfl rfl (sd rfl (yl_assign rfl rfl (sd rfl (yl_assign rfl rfl (dn (CW.ret ?_))))))))))
      refine tr (rr rfl (.cons rfl (.cons rfl (.cons rfl .nil))) ?_)
      have hM194 : (s_l25ReadEntry p_t p_name p_key) = ((([] : Str), ([] : Str), false)) := by simp only [s_l25ReadEntry, hb23, hb114, hb121, hb128, cL]
      rw [hM194]
      exact ⟨rfl, (okS.lit rfl), (okS.lit rfl), (Ex.trans (Ex.trans (Ex.trans (Ex.trans (Ex.trans (Ex.refl w) hE16) hE20) hE109) hE120) hE127)⟩
    ·refine sz rfl rfl (not_f hb121) (sz rfl rfl (not_f hb121) (sz rfl rfl (not_f hb121) (sz rfl rfl (not_f hb121) (sz rfl rfl (not_f hb121) (sd rfl (yl_pick_t rfl rfl (not_f hb121) rfl (dn (CW.sub (Sub.cons (d := 9) hx110 (Sub.cons (d := 39) rfl (Sub.nil _))) ?_))))))))
     refine CW.cond_t rfl rfl (CW.seq (CW.region (sd rfl (yl_assign rfl rfl (sd rfl (yl_assign rfl rfl (sd rfl (yl_assign rfl rfl (dn (CW.ret ?_))))))))))
     refine tr (rr rfl (.cons rfl (.cons rfl (.cons rfl .nil))) ?_)
     have hM200 : (s_l25ReadEntry p_t p_name p_key) = ((([] : Str), ([] : Str), false)) := by simp only [s_l25ReadEntry, hb23, hb114, hb121, cL]
     rw [hM200]
     exact ⟨rfl, (okS.lit rfl), (okS.lit rfl), (Ex.trans (Ex.trans (Ex.trans (Ex.trans (Ex.refl w) hE16) hE20) hE109) hE120)⟩
   ·refine sz rfl rfl (not_f hb114) (sz rfl rfl (not_f hb114) (sz rfl rfl (not_f hb114) (sz rfl rfl (not_f hb114) (sz rfl rfl (not_f hb114) (sd rfl (yl_pick_t rfl rfl (not_f hb114) rfl (sd rfl (yl_move rfl rfl (sz rfl rfl rfl (sz rfl rfl rfl ?_))))))))))
    refine sz rfl rfl rfl (sz rfl rfl rfl (sz rfl rfl rfl (sd rfl (yl_pick_t rfl rfl rfl rfl (dn (CW.sub (Sub.cons (d := 9) hx110 (Sub.cons (d := 39) rfl (Sub.nil _))) (CW.cond_t rfl rfl (CW.seq ?_))))))))
    refine CW.region (sd rfl (yl_assign rfl rfl (sd rfl (yl_assign rfl rfl (sd rfl (yl_assign rfl rfl (dn (CW.ret (tr (rr rfl (.cons rfl (.cons rfl (.cons rfl .nil))) ?_))))))))))
    have hM205 : (s_l25ReadEntry p_t p_name p_key) = ((([] : Str), ([] : Str), false)) := by simp only [s_l25ReadEntry, hb23, hb114, cL]
    rw [hM205]
    exact ⟨rfl, (okS.lit rfl), (okS.lit rfl), (Ex.trans (Ex.trans (Ex.trans (Ex.refl w) hE16) hE20) hE109)⟩
 ·have hb23p := dec_f hb23
  refine CW.drawsI 12 (vgetI ([.slice A18 ((s_l1Split p_key 47).length) c18, .int .i64 (((s_l1Split p_key 47).length : Int)), .bool (!(decide (((s_l1Split p_key 47).length : Int) = 3))), .bool (!(decide (((s_l1Split p_key 47).length : Int) = 3))), undef, undef, undef, undef, undef, undef, undef, undef].map DetI)) Tryz.follows rfl rfl rfl rfl rfl rfl (vgetI_stable (stD _)) ⟨?_, ?_, ?_, ?_, ?_, ?_, ?_, ?_, ?_, ?_, ?_, ?_, trivial⟩ ?_
  ·exact oI rfl fun h => yl_move rfl (h.old 9 _ rfl rfl) kI
  ·exact oI rfl fun h => yl_len un22 rfl (h.dt 0 12 rfl rfl rfl) kI
  ·exact oI rfl fun h => yl_neq rfl (h.dt 1 13 rfl rfl rfl) rfl kI
  ·exact oI rfl fun h => yl_move rfl (h.dt 2 14 rfl rfl rfl) kI
  ·exact oS rfl rfl rfl rfl rfl (not_f hb23)
  ·exact oS rfl rfl rfl rfl rfl (not_f hb23)
  ·exact oS rfl rfl rfl rfl rfl (not_f hb23)
  ·exact oS rfl rfl rfl rfl rfl (not_f hb23)
  ·exact oS rfl rfl rfl rfl rfl (not_f hb23)
  ·exact oS rfl rfl rfl rfl rfl (not_f hb23)
  ·exact oS rfl rfl rfl rfl rfl (not_f hb23)
  ·exact oS rfl rfl rfl rfl rfl (not_f hb23)
  ·intro fl272 fh273 L269 w270 hp271
   have hE274 := hp271.ex
   have hE274z := Ex.size hE274
   have hx276 := hp271.nt 3 15 rfl rfl rfl
   refine sz rfl hx276 (not_f hb23) (sd rfl (yl_pick_t rfl hx276 (not_f hb23) rfl (sd rfl (yl_move rfl rfl (sz rfl rfl rfl (sz rfl rfl rfl (sz rfl rfl rfl (sz rfl rfl rfl (sz rfl rfl rfl (sd rfl (yl_pick_t rfl rfl rfl rfl ?_)))))))))))
   refine sd rfl (yl_move rfl rfl (sz rfl rfl rfl (sz rfl rfl rfl (sz rfl rfl rfl (sz rfl rfl rfl (sz rfl rfl rfl (sd rfl (yl_pick_t rfl rfl rfl rfl (dn ?_)))))))))
   refine CW.sub (Sub.cons (d := 9) (hp271.old 9 _ rfl rfl) (Sub.cons (d := 39) rfl (Sub.nil _))) (CW.cond_t rfl rfl (CW.seq (CW.region (sd rfl (yl_assign rfl rfl (sd rfl (yl_assign rfl rfl (sd rfl (yl_assign rfl rfl (dn ?_))))))))))
   refine CW.ret (tr (rr rfl (.cons rfl (.cons rfl (.cons rfl .nil))) ?_))
   have hM279 : (s_l25ReadEntry p_t p_name p_key) = ((([] : Str), ([] : Str), false)) := by simp only [s_l25ReadEntry, hb23, cL]
   rw [hM279]
   exact ⟨rfl, (okS.lit rfl), (okS.lit rfl), (Ex.trans (Ex.trans (Ex.trans (Ex.refl w) hE16) hE20) hE274)⟩
theorem c_s_l25Entries {A1 : Option Addr} {c1 : Nat} {A2 : Option Addr} {c2 : Nat} {A5 : Option Addr} {c5 : Nat} {w : World} (p_t : DTable) (p_name : Str) (p_store : List DWrite) (h1 : RdS w (Iv 0 w.heap.size) (RF e_Str) 1 A1 p_t.Cols.length c1 p_t.Cols) (h2 : RdS w (Iv 0 w.heap.size) (RF e_Idx) 3 A2 p_t.Idxs.length c2 p_t.Idxs) (h5 : RdS w (Iv 0 w.heap.size) (RF e_Write) 3 A5 p_store.length c5 p_store) (o3 : ok_Table p_t) (o4 : okS p_name) (o6 : (okL ok_Write) p_store) : Cal Tryz.prog 77 #[.agg #[.string (bs (p_t.Name)), .slice A1 p_t.Cols.length c1, .slice A2 p_t.Idxs.length c2], .string (bs (p_name)), .slice A5 p_store.length c5] w fun v w' => ∃ A_1 c_1 lo_1 hi_1, v = .slice A_1 ((s_l25Entries p_t p_name p_store).length) c_1 ∧ OwnL w' lo_1 hi_1 9 1 (RF e_Str) A_1 ((s_l25Entries p_t p_name p_store).length) c_1 (s_l25Entries p_t p_name p_store) ∧ (okL okS) (s_l25Entries p_t p_name p_store) ∧ (w.heap.size ≤ lo_1 ∧ lo_1 ≤ hi_1 ∧ hi_1 ≤ w'.heap.size) ∧ Ex w w' := by
 have hol7 : p_t.Name.length ≤ 1073741824 := o3.1
 have hol8 := o3.2.1.1
 have hol9 := o3.2.2.1
 have hol10 : p_name.length ≤ 1073741824 := o4
 have hol11 := o6.1
 refine Cal.of func77 rfl ntmps77 rfl (CW.seq (CW.region (sd rfl (yl_box rfl rfl rfl ?_))))
 intro b12 w13 hs14 hz15 hB16 hE17
 refine sd rfl (yl_assign rfl rfl (dn (CW.seq (CW.region (sd rfl (yl_assign rfl rfl (dn (CW.seq ?_))))))))
 refine CW.seq (CW.region (sd rfl (yl_move rfl rfl (sd rfl (yl_len un36 rfl rfl (sd rfl (yl_move rfl rfl (dn (CW.block (CW.loop (fun m84 L85 w86 => ∃ (k18 : Nat) (x80 : List Str) (A81 : Option Addr) (c82 : Nat) (u83 : Nat), m84 = p_store.length - k18 ∧ k18 ≤ p_store.length ∧ w13.heap.size ≤ w86.heap.size ∧ lkp L85 1 = some (.string (bs (p_name))) ∧ lkp L85 3 = some (.pointer (some ⟨b12, 0, none⟩)) ∧ lkp L85 7 = some (.slice A81 x80.length c82) ∧ lkp L85 13 = some (.slice A5 p_store.length c5) ∧ lkp L85 14 = some (.int .i64 ((p_store.length : Int))) ∧ lkp L85 15 = some (.int .i64 ((k18 : Int))) ∧ Box w86 b12 34 [.string (bs (p_t.Name)), .slice A1 p_t.Cols.length c1, .slice A2 p_t.Idxs.length c2] ∧ RdS w86 (Iv 0 w.heap.size) (RF e_Str) 1 A1 p_t.Cols.length c1 p_t.Cols ∧ RdS w86 (Iv 0 w.heap.size) (RF e_Idx) 3 A2 p_t.Idxs.length c2 p_t.Idxs ∧ OwnL w86 w13.heap.size u83 9 1 (RF e_Str) A81 x80.length c82 x80 ∧ RdS w86 (Iv 0 w.heap.size) (RF e_Write) 3 A5 p_store.length c5 p_store ∧ Ex w w86 ∧ (w13.heap.size ≤ u83 ∧ u83 ≤ w86.heap.size) ∧ x80.length ≤ 0 + 1 * (k18 - 0) ∧ (∀ y ∈ x80, okS y) ∧ loopM (B_s_l25Entries_0 p_t p_name p_store) (p_store.length - k18) k18 (x80) = loopM (B_s_l25Entries_0 p_t p_name p_store) (p_store.length - 0) 0 (([] : List Str))) (p_store.length - 0) ?_ ?_))))))))))
 ·exact ⟨0, ([] : List Str), none, 0, w13.heap.size, rfl, (by omega), Nat.le_refl _, rfl, rfl, rfl, rfl, rfl, rfl, hB16, (RdS.ex good_Str h1 hE17), (RdS.ex good_Idx h2 hE17), (OwnL.nil w13 w13.heap.size w13.heap.size 9 1 (RF e_Str)), (RdS.ex good_Write h5 hE17), (Ex.trans (Ex.refl w) hE17), (by omega), (by first | (simp; done) | (first | omega | (simp only [List.length_append, List.length_cons, List.length_nil, List.length_set, toS_length]; omega))), okE.nil, rfl⟩
 ·rintro m91 L92 w93 ⟨k18, x80, A81, c82, u83, rfl, hk94, hsz96, hl97, hl98, hl99, hl100, hl101, hl102, hf103, hf104, hf105, hf106, hf107, hf108, hu109, hln110, hok111, hI95⟩
  refine CW.sub (Sub.cons hl97 (Sub.cons hl98 (Sub.cons hl99 (Sub.cons hl100 (Sub.cons hl101 (Sub.cons hl102 (Sub.nil _))))))) ?_
  have hf103z := Box.lt hf103
  have hf108z := Ex.size hf108
  have hbg112 := RdS.big hf107
  rcases Nat.lt_or_ge k18 p_store.length with hlt113 | hlt113
  ·refine CW.seq (CW.region (sd rfl (yl_lss rfl rfl rfl (dn (CW.seq (CW.cond_t rfl (lt_t hlt113) (CW.skip (tn ?_))))))))
   refine CW.seq (CW.block (CW.seq (CW.region ?_)))
   obtain ⟨eb114, eo114, _, eA114, _, ebl114, _, eR114, eC114⟩ := RdS.aD hf107 d_Write (i := k18)
   obtain rfl := eR114
   have eC114 : Cells w93 eb114 (eo114 + k18 * 3) [.string (bs ((p_store.getD k18 d_Write).Key)), .string (bs ((p_store.getD k18 d_Write).Val)), .bool ((p_store.getD k18 d_Write).Gone)] := eC114
   refine sd rfl (yl_ixN un36 ty75 rfl rfl rfl eA114 (sd rfl (yl_loadN ty75 rfl rfl eC114 rfl (sd rfl (yl_alloc ty75 (cs := [.string (bs (([] : Str))), .string (bs (([] : Str))), .bool (false)]) rfl rfl ?_)))))
   intro b115 w116 hs117 hz118 hB119 hE120
   refine SeqR.u rfl rfl (yl_store (vs := [.string (bs ((p_store.getD k18 d_Write).Key)), .string (bs ((p_store.getD k18 d_Write).Val)), .bool ((p_store.getD k18 d_Write).Gone)]) ty75 rfl rfl rfl rfl rfl rfl hB119 (Nat.le_of_ble_eq_true rfl) ?_)
   intro w121 hB122 hO123
   have hB122 : Box w121 b115 75 [.string (bs ((p_store.getD k18 d_Write).Key)), .string (bs ((p_store.getD k18 d_Write).Val)), .bool ((p_store.getD k18 d_Write).Gone)] := hB122
   have hO123z := hO123.size
   refine dn (CW.seq (CW.region ?_))
   have q125 := Box.only (Box.ex hf103 hE120) hO123 (by omega)
   refine sd rfl (yl_loadN ty34 rfl rfl (q125.cells (n := 3) rfl) rfl (sd rfl (yl_move rfl rfl (sd rfl (yl_fieldAddr fd75_0 rfl rfl (sd rfl (yl_load1 ty9 rfl rfl ((hB122.cell 0).trans rfl) ?_)))))))
   have q127 := RdS.only good_Str (RdS.ex good_Str hf104 hE120) hO123 (by simp only [Iv]; omega)
   have q129 := RdS.only good_Idx (RdS.ex good_Idx hf105 hE120) hO123 (by simp only [Iv]; omega)
   refine sd rfl (yl_call en108 rfl (oc rfl (oc rfl (oc rfl oz))) (Cal.mono (c_s_l25ReadEntry p_t p_name ((p_store.getD k18 d_Write).Key) (RdS.up q127 good_Str) (RdS.up q129 good_Idx) o3 o4 ((okL.getD o6 ok_d_Write _).1)) ?_))
   rintro v133 w130 ⟨rfl, ho131, ho132, hE134⟩
   have hE134z := Ex.size hE134
   refine sd rfl (yl_move rfl rfl (sd rfl (yl_extract rfl rfl rfl (sd rfl (yl_extract rfl rfl rfl (sd rfl (yl_extract rfl rfl rfl (sd rfl (yl_assign rfl rfl (sd rfl (yl_assign rfl rfl (sd rfl (yl_assign rfl rfl (dn ?_))))))))))))))
   refine CW.seq (CW.region (sd rfl (yl_move rfl rfl (dn (bcase ((s_l25ReadEntry p_t p_name ((p_store.getD k18 d_Write).Key)).2.2) (fun hb135 => ?_) (fun hb135 => ?_))))))
   ·refine CW.cond_t rfl hb135 (CW.region (sd rfl (yl_move rfl rfl (sd rfl (yl_fieldAddr fd75_0 rfl rfl (sd rfl (yl_load1 ty9 rfl rfl (((Box.ex hB122 hE134).cell 0).trans rfl) (sd rfl (yl_buildSlice (cs := [.string (bs ((p_store.getD k18 d_Write).Key))]) un22 ty9 (by decide) rfl (oc rfl oz) (by kernel_rfl) ?_)))))))))
    intro b137 w138 hs139 hz140 hB141 hE142
    have hO143 : OwnL w138 b137 (b137 + 1) 9 1 (RF e_Str) (some ⟨b137, 0, none⟩) 1 1 ([(p_store.getD k18 d_Write).Key] : List Str) := OwnL.of_box (S := fun _ => False) hB141 (Nat.le_refl _) (Nat.lt_succ_self _) (EncL.cons (c := [.string (bs ((p_store.getD k18 d_Write).Key))]) rfl rfl EncL.nil) (Nat.le_of_ble_eq_true rfl) (fun h => h) (fun _ h => False.elim h)
    refine sd rfl (yl_appendL (S := (fun _ => False)) (lo := w13.heap.size) (hi := u83) (xs := x80) (ys := ([(p_store.getD k18 d_Write).Key] : List Str)) good_Str un22 ty9 rfl (Nat.le_of_ble_eq_true rfl) rfl rfl rfl (OwnL.ex good_Str (OwnL.ex good_Str (OwnL.only good_Str (OwnL.ex good_Str hf106 hE120) hO123 (by omega)) hE134) hE142) (EncL.cons (c := [.string (bs ((p_store.getD k18 d_Write).Key))]) rfl rfl EncL.nil) (Or.inr ⟨_, _, rfl, rfl, hB141.cells (o := 0) (n := 1) rfl⟩) rfl (by first | omega | (simp only [List.length_append, List.length_cons, List.length_nil, List.length_take, List.length_drop, List.length_replicate, List.length_set, toS_length]; omega)) (by first | omega | (simp only [List.length_append, List.length_cons, List.length_nil, List.length_take, List.length_drop, List.length_replicate, List.length_set, toS_length]; omega)) (by omega) (by omega) (fun _ h _ => False.elim h) (by omega) ?_)
    intro A148 c149 w150 row151 hO152 hG153 hrg154
    have hG153z := hG153.size
    refine sd rfl (yl_assign rfl rfl (SeqR.done (bn (tn (CW.region (sd rfl (yl_inc rfl rfl rfl (by omega) (sd rfl (yl_move rfl rfl (dn ?_))))))))))
    have hB155 : B_s_l25Entries_0 p_t p_name p_store k18 (x80) = .cont ((x80 ++ ([(p_store.getD k18 d_Write).Key] : List Str))) := by simp only [B_s_l25Entries_0, hb135, cL]
    exact ⟨p_store.length - (k18 + 1), by omega, k18 + 1, (x80 ++ ([(p_store.getD k18 d_Write).Key] : List Str)), A148, c149, w150.heap.size, rfl, hlt113, (by omega), rfl, rfl, rfl, rfl, rfl, rfl, (Box.grown (Box.ex (Box.ex q125 hE134) hE142) hG153 (fun k hk => by have := hrg154 k hk; omega)), (RdS.grown good_Str (RdS.ex good_Str (RdS.ex good_Str q127 hE134) hE142) hG153 (fun k hk => by have := hrg154 k hk; simp only [Iv]; omega)), (RdS.grown good_Idx (RdS.ex good_Idx (RdS.ex good_Idx q129 hE134) hE142) hG153 (fun k hk => by have := hrg154 k hk; simp only [Iv]; omega)), hO152, (RdS.grown good_Write (RdS.ex good_Write (RdS.ex good_Write (RdS.only good_Write (RdS.ex good_Write hf107 hE120) hO123 (by simp only [Iv]; omega)) hE134) hE142) hG153 (fun k hk => by have := hrg154 k hk; simp only [Iv]; omega)), (Below.grown (Ex.trans (Ex.trans (Below.only (Ex.trans hf108 hE120) hO123 (by omega)) hE134) hE142) hG153 (by omega) (fun k hk => by have := hrg154 k hk; omega)), (by omega), (by first | omega | (simp only [List.length_append, List.length_cons, List.length_nil, List.length_set, toS_length]; omega)), (okE.append hok111 ((okL.mk (Nat.le_of_ble_eq_true rfl) (okE.cons (okL.getD o6 ok_d_Write _).1 okE.nil))).2), (loopM.cont hlt113 hB155).symm.trans hI95⟩
   ·refine CW.cond_f rfl hb135 (CW.skip (bn (tn (CW.region (sd rfl (yl_inc rfl rfl rfl (by omega) (sd rfl (yl_move rfl rfl (dn ?_)))))))))
    have hB175 : B_s_l25Entries_0 p_t p_name p_store k18 (x80) = .cont (x80) := by simp only [B_s_l25Entries_0, hb135, cL]
    exact ⟨p_store.length - (k18 + 1), by omega, k18 + 1, x80, A81, c82, u83, rfl, hlt113, (by omega), rfl, rfl, rfl, rfl, rfl, rfl, (Box.ex q125 hE134), (RdS.ex good_Str q127 hE134), (RdS.ex good_Idx q129 hE134), (OwnL.ex good_Str (OwnL.only good_Str (OwnL.ex good_Str hf106 hE120) hO123 (by omega)) hE134), (RdS.ex good_Write (RdS.only good_Write (RdS.ex good_Write hf107 hE120) hO123 (by simp only [Iv]; omega)) hE134), (Ex.trans (Below.only (Ex.trans hf108 hE120) hO123 (by omega)) hE134), (by omega), (by first | omega | (simp only [List.length_append, List.length_cons, List.length_nil, List.length_set, toS_length]; omega)), hok111, (loopM.cont hlt113 hB175).symm.trans hI95⟩
  ·refine CW.seq (CW.region (sd rfl (yl_lss rfl rfl rfl (dn (CW.seq (CW.cond_f rfl (lt_f hlt113) (CW.exit (tx ?_))))))))
   refine tx ?_
   have hL188 : loopM (B_s_l25Entries_0 p_t p_name p_store) (p_store.length - 0) 0 (([] : List Str)) = .done (x80) := hI95.symm.trans (loopM.stop hlt113)
   refine bx (tn (CW.seq (CW.region (sd rfl (yl_move rfl rfl (sd rfl (yl_assign rfl rfl (dn (CW.ret ?_)))))))))
   refine rr rfl (.cons rfl .nil) ?_
   have hM189 : (s_l25Entries p_t p_name p_store) = (x80) := by simp only [s_l25Entries, hL188, cL]
   rw [hM189]
   exact ⟨A81, c82, w13.heap.size, u83, rfl, hf106, (okL.mk (xs := x80) (by first | omega | (simp only [List.length_append, List.length_cons, List.length_nil, List.length_take, List.length_drop, List.length_replicate, List.length_set, toS_length]; omega)) hok111), (by omega), hf108⟩
theorem c_s_l25Entry {A1 : Option Addr} {c1 : Nat} {A2 : Option Addr} {c2 : Nat} {A5 : Option Addr} {c5 : Nat} {w : World} (p_t : DTable) (p_x : DIdx) (p_r : DRow) (h1 : RdS w (Iv 0 w.heap.size) (RF e_Str) 1 A1 p_t.Cols.length c1 p_t.Cols) (h2 : RdS w (Iv 0 w.heap.size) (RF e_Idx) 3 A2 p_t.Idxs.length c2 p_t.Idxs) (h5 : RdS w (Iv 0 w.heap.size) (RF e_Str) 1 A5 p_r.Vals.length c5 p_r.Vals) (o3 : ok_Table p_t) (o4 : ok_Idx p_x) (o6 : ok_Row p_r) (pre0 : (0 ≤ p_x.Col ∧ p_x.Col < (p_r.Vals.length : Int))) (pre1 : (p_t.Name.length ≤ 1 ∧ p_x.Name.length ≤ 1)) (pre2 : rowShort p_r) : Cal Tryz.prog 80 #[.agg #[.string (bs (p_t.Name)), .slice A1 p_t.Cols.length c1, .slice A2 p_t.Idxs.length c2], .agg #[.string (bs (p_x.Name)), .int .i64 (p_x.Col), .int .i64 (p_x.Stage)], .agg #[.slice A5 p_r.Vals.length c5]] w fun v w' => v = .string (bs ((s_l25Entry p_t p_x p_r))) ∧ okS (s_l25Entry p_t p_x p_r) ∧ Ex w w' := by
 have hol7 : p_t.Name.length ≤ 1073741824 := o3.1
 have hol8 := o3.2.1.1
 have hol9 := o3.2.2.1
 have hol10 : p_x.Name.length ≤ 1073741824 := o4
 have hol11 := o6.1
 refine Cal.of func80 rfl ntmps80 rfl (CW.seq (CW.region (sd rfl (yl_box rfl rfl rfl ?_))))
 intro b12 w13 hs14 hz15 hB16 hE17
 refine sd rfl (yl_box rfl rfl rfl ?_)
 intro b18 w19 hs20 hz21 hB22 hE23
 refine sd rfl (yl_box rfl rfl rfl ?_)
 intro b24 w25 hs26 hz27 hB28 hE29
 refine sd rfl (yl_assign rfl rfl (dn (CW.seq ?_)))
 have hol32 : p_t.Name.length ≤ 1073741824 := o3.1
 have q33 := Box.ex hB22 hE29
 have hol34 : p_t.Name.length ≤ 1073741824 := o3.1
 have hol35 : p_x.Name.length ≤ 1073741824 := o4
 have hol36 : p_t.Name.length ≤ 1073741824 := o3.1
 have hol37 : p_x.Name.length ≤ 1073741824 := o4
 have q40 := RdS.ex good_Str (RdS.ex good_Str (RdS.ex good_Str h5 hE17) hE23) hE29
 obtain ⟨eb41, eo41, _, eA41, _, ebl41, _, eR41, eC41⟩ := RdS.atD q40 d_Str (i := (p_x.Col).toNat) (by first | omega | assumption | (simp only [wI] at *; omega))
 obtain rfl := eR41
 have eC41 : Cells w25 eb41 (eo41 + ((p_x.Col).toNat) * 1) [.string (bs ((p_r.Vals.getD ((p_x.Col).toNat) d_Str)))] := eC41
 have hol42 : p_t.Name.length ≤ 1073741824 := o3.1
 have hol43 : p_x.Name.length ≤ 1073741824 := o4
 have hol44 : (p_r.Vals.getD ((p_x.Col).toNat) d_Str).length ≤ 1073741824 := (okL.getD o6 ok_d_Str _)
 have hol45 : p_t.Name.length ≤ 1073741824 := o3.1
 have hol46 : p_x.Name.length ≤ 1073741824 := o4
 have hol47 : (p_r.Vals.getD ((p_x.Col).toNat) d_Str).length ≤ 1073741824 := (okL.getD o6 ok_d_Str _)
 obtain ⟨eb48, eo48, _, eA48, _, ebl48, _, eR48, eC48⟩ := RdS.aD q40 d_Str (i := 0)
 obtain rfl := eR48
 have eC48 : Cells w25 eb48 (eo48 + 0 * 1) [.string (bs ((p_r.Vals.getD 0 d_Str)))] := eC48
 have hol49 : p_t.Name.length ≤ 1073741824 := o3.1
 have hol50 : p_x.Name.length ≤ 1073741824 := o4
 have hol51 : (p_r.Vals.getD ((p_x.Col).toNat) d_Str).length ≤ 1073741824 := (okL.getD o6 ok_d_Str _)
 have hol52 : (p_r.Vals.getD 0 d_Str).length ≤ 1073741824 := (okL.getD o6 ok_d_Str _)
 refine CW.drawsI 21 (vgetI ([.pointer (some ⟨b12, 0 + 0, none⟩), .string (bs (p_t.Name)), .string (bs (p_t.Name ++ ([46] : Str))), .pointer (some ⟨b18, 0 + 0, none⟩), .string (bs (p_x.Name)), .string (bs ((p_t.Name ++ ([46] : Str)) ++ p_x.Name)), .string (bs (((p_t.Name ++ ([46] : Str)) ++ p_x.Name) ++ ([47] : Str))), .pointer (some ⟨b24, 0 + 0, none⟩), .slice A5 p_r.Vals.length c5, .pointer (some ⟨b18, 0 + 1, none⟩), .int .i64 (p_x.Col), .pointer (some ⟨eb41, eo41 + ((p_x.Col).toNat) * 1, none⟩), .string (bs ((p_r.Vals.getD ((p_x.Col).toNat) d_Str))), .string (bs ((((p_t.Name ++ ([46] : Str)) ++ p_x.Name) ++ ([47] : Str)) ++ (p_r.Vals.getD ((p_x.Col).toNat) d_Str))), .string (bs (((((p_t.Name ++ ([46] : Str)) ++ p_x.Name) ++ ([47] : Str)) ++ (p_r.Vals.getD ((p_x.Col).toNat) d_Str)) ++ ([47] : Str))), .pointer (some ⟨b24, 0 + 0, none⟩), .slice A5 p_r.Vals.length c5, .pointer (some ⟨eb48, eo48 + 0 * 1, none⟩), .string (bs ((p_r.Vals.getD 0 d_Str))), .string (bs ((((((p_t.Name ++ ([46] : Str)) ++ p_x.Name) ++ ([47] : Str)) ++ (p_r.Vals.getD ((p_x.Col).toNat) d_Str)) ++ ([47] : Str)) ++ (p_r.Vals.getD 0 d_Str))), .string (bs ((((((p_t.Name ++ ([46] : Str)) ++ p_x.Name) ++ ([47] : Str)) ++ (p_r.Vals.getD ((p_x.Col).toNat) d_Str)) ++ ([47] : Str)) ++ (p_r.Vals.getD 0 d_Str)))].map DetI)) Tryz.follows rfl rfl rfl rfl rfl rfl (vgetI_stable (stD _)) ⟨?_, ?_, ?_, ?_, ?_, ?_, ?_, ?_, ?_, ?_, ?_, ?_, ?_, ?_, ?_, ?_, ?_, ?_, ?_, ?_, ?_, trivial⟩ ?_
 ·exact oI rfl fun h => yl_fieldAddr fd34_0 rfl (h.old 3 _ rfl rfl) kI
 ·exact oI rfl fun h => yl_load1 ty9 rfl (h.dt 0 7 rfl rfl rfl) (((Box.ex (Box.ex (Box.ex hB16 hE23) hE29) h.ex).cell 0).trans rfl) kI
 ·intro L64 w65 hi66
  have hE67 := hi66.ex
  have hE67z := Ex.size hE67
  have hol69 : p_t.Name.length ≤ 1073741824 := o3.1
  exact os rfl ((yl_sadd (a := p_t.Name) (b := ([46] : Str)) rfl (hi66.dt 1 8 rfl rfl rfl) rfl (by first | omega | (simp only [List.length_append, List.length_cons, List.length_nil, List.length_take, List.length_drop, toS_length]; omega)) kI))
 ·exact oI rfl fun h => yl_fieldAddr fd104_0 rfl (h.old 4 _ rfl rfl) kI
 ·exact oI rfl fun h => yl_load1 ty9 rfl (h.dt 3 10 rfl rfl rfl) (((Box.ex q33 h.ex).cell 0).trans rfl) kI
 ·intro L81 w82 hi83
  have hE84 := hi83.ex
  have hE84z := Ex.size hE84
  have hol87 : p_t.Name.length ≤ 1073741824 := o3.1
  have hol88 : p_x.Name.length ≤ 1073741824 := o4
  exact os rfl ((yl_sadd (a := (p_t.Name ++ ([46] : Str))) (b := p_x.Name) rfl (hi83.dt 2 9 rfl rfl rfl) (hi83.dt 4 11 rfl rfl rfl) (by first | omega | (simp only [List.length_append, List.length_cons, List.length_nil, List.length_take, List.length_drop, toS_length]; omega)) kI))
 ·intro L89 w90 hi91
  have hE92 := hi91.ex
  have hE92z := Ex.size hE92
  have hol94 : p_t.Name.length ≤ 1073741824 := o3.1
  have hol95 : p_x.Name.length ≤ 1073741824 := o4
  exact os rfl ((yl_sadd (a := ((p_t.Name ++ ([46] : Str)) ++ p_x.Name)) (b := ([47] : Str)) rfl (hi91.dt 5 12 rfl rfl rfl) rfl (by first | omega | (simp only [List.length_append, List.length_cons, List.length_nil, List.length_take, List.length_drop, toS_length]; omega)) kI))
 ·exact oI rfl fun h => yl_fieldAddr fd80_0 rfl (h.old 5 _ rfl rfl) kI
 ·exact oI rfl fun h => yl_load1 ty22 rfl (h.dt 7 14 rfl rfl rfl) (((Box.ex hB28 h.ex).cell 0).trans rfl) kI
 ·exact oI rfl fun h => yl_fieldAddr fd104_1 rfl (h.old 4 _ rfl rfl) kI
 ·exact oI rfl fun h => yl_load1 ty3 rfl (h.dt 9 16 rfl rfl rfl) (((Box.ex q33 h.ex).cell 1).trans rfl) kI
 ·intro L118 w119 hi120
  have hE121 := hi120.ex
  have hE121z := Ex.size hE121
  exact os rfl ((yl_indexAddr un22 ty9 rfl (hi120.dt 8 15 rfl rfl rfl) (hi120.dt 10 17 rfl rfl rfl) eA41 (by first | omega | assumption | (simp only [wI] at *; omega)) (by first | omega | assumption | (simp only [wI] at *; omega)) kI))
 ·exact oI rfl fun h => yl_load1 ty9 rfl (h.dt 11 18 rfl rfl rfl) ((Cells.ex eC41 h.ex) 0 _ rfl) kI
 ·intro L130 w131 hi132
  have hE133 := hi132.ex
  have hE133z := Ex.size hE133
  have hol136 : p_t.Name.length ≤ 1073741824 := o3.1
  have hol137 : p_x.Name.length ≤ 1073741824 := o4
  have hol138 : (p_r.Vals.getD ((p_x.Col).toNat) d_Str).length ≤ 1073741824 := (okL.getD o6 ok_d_Str _)
  exact os rfl ((yl_sadd (a := (((p_t.Name ++ ([46] : Str)) ++ p_x.Name) ++ ([47] : Str))) (b := (p_r.Vals.getD ((p_x.Col).toNat) d_Str)) rfl (hi132.dt 6 13 rfl rfl rfl) (hi132.dt 12 19 rfl rfl rfl) (by first | omega | (simp only [List.length_append, List.length_cons, List.length_nil, List.length_take, List.length_drop, toS_length]; omega)) kI))
 ·intro L139 w140 hi141
  have hE142 := hi141.ex
  have hE142z := Ex.size hE142
  have hol144 : p_t.Name.length ≤ 1073741824 := o3.1
  have hol145 : p_x.Name.length ≤ 1073741824 := o4
  have hol146 : (p_r.Vals.getD ((p_x.Col).toNat) d_Str).length ≤ 1073741824 := (okL.getD o6 ok_d_Str _)
  exact os rfl ((yl_sadd (a := ((((p_t.Name ++ ([46] : Str)) ++ p_x.Name) ++ ([47] : Str)) ++ (p_r.Vals.getD ((p_x.Col).toNat) d_Str))) (b := ([47] : Str)) rfl (hi141.dt 13 20 rfl rfl rfl) rfl (by first | omega | (simp only [List.length_append, List.length_cons, List.length_nil, List.length_take, List.length_drop, toS_length]; omega)) kI))
 ·exact oI rfl fun h => yl_fieldAddr fd80_0 rfl (h.old 5 _ rfl rfl) kI
 ·exact oI rfl fun h => yl_load1 ty22 rfl (h.dt 15 22 rfl rfl rfl) (((Box.ex hB28 h.ex).cell 0).trans rfl) kI
 ·intro L158 w159 hi160
  have hE161 := hi160.ex
  have hE161z := Ex.size hE161
  exact os rfl ((yl_ixN un22 ty9 rfl (hi160.dt 16 23 rfl rfl rfl) rfl eA48 kI))
 ·exact oI rfl fun h => yl_load1 ty9 rfl (h.dt 17 24 rfl rfl rfl) ((Cells.ex eC48 h.ex) 0 _ rfl) kI
 ·intro L169 w170 hi171
  have hE172 := hi171.ex
  have hE172z := Ex.size hE172
  have hol175 : p_t.Name.length ≤ 1073741824 := o3.1
  have hol176 : p_x.Name.length ≤ 1073741824 := o4
  have hol177 : (p_r.Vals.getD ((p_x.Col).toNat) d_Str).length ≤ 1073741824 := (okL.getD o6 ok_d_Str _)
  have hol178 : (p_r.Vals.getD 0 d_Str).length ≤ 1073741824 := (okL.getD o6 ok_d_Str _)
  exact os rfl ((yl_sadd (a := (((((p_t.Name ++ ([46] : Str)) ++ p_x.Name) ++ ([47] : Str)) ++ (p_r.Vals.getD ((p_x.Col).toNat) d_Str)) ++ ([47] : Str))) (b := (p_r.Vals.getD 0 d_Str)) rfl (hi171.dt 14 21 rfl rfl rfl) (hi171.dt 18 25 rfl rfl rfl) (by first | omega | (simp only [List.length_append, List.length_cons, List.length_nil, List.length_take, List.length_drop, toS_length]; omega)) kI))
 ·exact oI rfl fun h => yl_assign rfl (h.dt 19 26 rfl rfl rfl) kI
 ·intro fl187 fh188 L184 w185 hp186
  have hE189 := hp186.ex
  have hE189z := Ex.size hE189
  refine dn (CW.sub (Sub.cons (d := 6) (hp186.nt 20 6 rfl rfl rfl) (Sub.nil _)) (CW.ret (rr rfl (.cons rfl .nil) ?_)))
  have hM191 : (s_l25Entry p_t p_x p_r) = ((((((p_t.Name ++ ([46] : Str)) ++ p_x.Name) ++ ([47] : Str)) ++ (p_r.Vals.getD ((p_x.Col).toNat) d_Str)) ++ ([47] : Str)) ++ (p_r.Vals.getD 0 d_Str)) := by simp only [s_l25Entry, cL]
  rw [hM191]
  exact ⟨rfl, (okS_l25Entry pre1 pre2), (Ex.trans (Ex.trans (Ex.trans (Ex.trans (Ex.refl w) hE17) hE23) hE29) hE189)⟩
theorem c_s_l29Filled {A1 : Option Addr} {c1 : Nat} {A2 : Option Addr} {c2 : Nat} {A3 : Option Addr} {c3 : Nat} {w : World} (p_w : DWork) (h1 : RdS w (Iv 0 w.heap.size) R_Table 3 A1 p_w.Shift.Ways.length c1 p_w.Shift.Ways) (h2 : RdS w (Iv 0 w.heap.size) (RF e_Int) 1 A2 p_w.Shift.At.length c2 p_w.Shift.At) (h3 : RdS w (Iv 0 w.heap.size) (RF e_Write) 3 A3 p_w.Shift.Store.length c3 p_w.Shift.Store) (o4 : ok_Work p_w) (pre0 : ShiftOk p_w.Shift) : Cal Tryz.prog 46 #[.agg #[.string (bs (p_w.Shift.Name)), .slice A1 p_w.Shift.Ways.length c1, .slice A2 p_w.Shift.At.length c2, .slice A3 p_w.Shift.Store.length c3, .string (bs (p_w.Up.Last)), .bool (p_w.Up.Over), .string (bs (p_w.Down.Last)), .bool (p_w.Down.Over)]] w fun v w' => v = .bool ((s_l29Filled p_w)) ∧ Ex w w' := by
 have hol5 : p_w.Shift.Name.length ≤ 1073741824 := o4.1.1
 have hol6 := o4.1.2.1.1
 have hol7 := o4.1.2.2.1.1
 have hol8 := o4.1.2.2.2.1
 have hol9 : p_w.Up.Last.length ≤ 1073741824 := o4.2.1
 have hol10 : p_w.Down.Last.length ≤ 1073741824 := o4.2.2
 obtain ⟨hf1, hf2, hf3, hf4, hf5, hf6, hf7, hf8, hf9⟩ := f_filled pre0
 refine Cal.of func46 rfl ntmps46 rfl (CW.seq (CW.region (sd rfl (yl_box rfl rfl rfl ?_))))
 intro b11 w12 hs13 hz14 hB15 hE16
 refine sd rfl (yl_assign rfl rfl (dn (CW.seq (CW.region (sd rfl (yl_fieldAddr fd61_0 rfl rfl (sd rfl (yl_loadN ty58 rfl rfl (hB15.cells (n := 4) rfl) rfl (sd rfl (yl_alloc ty58 (cs := [.string (bs (([] : Str))), .slice none 0 0, .slice none 0 0, .slice none 0 0]) rfl rfl ?_))))))))))
 intro b17 w18 hs19 hz20 hB21 hE22
 refine SeqR.u rfl rfl (yl_store (vs := [.string (bs (p_w.Shift.Name)), .slice A1 p_w.Shift.Ways.length c1, .slice A2 p_w.Shift.At.length c2, .slice A3 p_w.Shift.Store.length c3]) ty58 rfl rfl rfl rfl rfl rfl hB21 (Nat.le_of_ble_eq_true rfl) ?_)
 intro w23 hB24 hO25
 have hB24 : Box w23 b17 58 [.string (bs (p_w.Shift.Name)), .slice A1 p_w.Shift.Ways.length c1, .slice A2 p_w.Shift.At.length c2, .slice A3 p_w.Shift.Store.length c3] := hB24
 have hO25z := hO25.size
 refine dn (CW.seq (CW.region (sd rfl (yl_fieldAddr fd58_1 rfl rfl (sd rfl (yl_load1 ty56 rfl rfl ((hB24.cell 1).trans rfl) ?_))))))
 have q28 := RdS.only good_Table (RdS.ex good_Table (RdS.ex good_Table h1 hE16) hE22) hO25 (by simp only [Iv]; omega)
 obtain ⟨_, _, _, eA29, _, ebl29, _, eR29, eC29⟩ := RdS.aD q28 d_Table (i := 0)
 obtain ⟨A30, c30, A31, c31, rfl, h30, h31⟩ := eR29
 refine sd rfl (yl_ixN un56 ty34 rfl rfl rfl eA29 (sd rfl (yl_loadN ty34 rfl rfl eC29 rfl (sd rfl (yl_alloc ty34 (cs := [.string (bs (([] : Str))), .slice none 0 0, .slice none 0 0]) rfl rfl ?_)))))
 intro b32 w33 hs34 hz35 hB36 hE37
 refine SeqR.u rfl rfl (yl_store (vs := [.string (bs ((p_w.Shift.Ways.getD 0 d_Table).Name)), .slice A30 (((p_w.Shift.Ways.getD 0 d_Table).Cols).length) c30, .slice A31 (((p_w.Shift.Ways.getD 0 d_Table).Idxs).length) c31]) ty34 rfl rfl rfl rfl rfl rfl hB36 (Nat.le_of_ble_eq_true rfl) ?_)
 intro w38 hB39 hO40
 have hB39 : Box w38 b32 34 [.string (bs ((p_w.Shift.Ways.getD 0 d_Table).Name)), .slice A30 (((p_w.Shift.Ways.getD 0 d_Table).Cols).length) c30, .slice A31 (((p_w.Shift.Ways.getD 0 d_Table).Idxs).length) c31] := hB39
 have hO40z := hO40.size
 refine dn (CW.seq (CW.region (sd rfl (yl_loadN ty34 rfl rfl (hB39.cells (n := 3) rfl) rfl (sd rfl (yl_fieldAddr fd58_0 rfl rfl ?_))))))
 have q42 := Box.only (Box.ex hB24 hE37) hO40 (by omega)
 refine sd rfl (yl_load1 ty9 rfl rfl ((q42.cell 0).trans rfl) (sd rfl (yl_fieldAddr fd58_3 rfl rfl (sd rfl (yl_load1 ty36 rfl rfl ((q42.cell 3).trans rfl) ?_)))))
 have q44 := RdS.only good_Str (RdS.ex good_Str h30 hE37) hO40 (by simp only [Iv]; omega)
 have q46 := RdS.only good_Idx (RdS.ex good_Idx h31 hE37) hO40 (by simp only [Iv]; omega)
 have q51 := RdS.only good_Write (RdS.ex good_Write (RdS.only good_Write (RdS.ex good_Write (RdS.ex good_Write h3 hE16) hE22) hO25 (by simp only [Iv]; omega)) hE37) hO40 (by simp only [Iv]; omega)
 refine sd rfl (yl_call en77 rfl (oc rfl (oc rfl (oc rfl oz))) (Cal.mono (c_s_l25Entries (p_w.Shift.Ways.getD 0 d_Table) p_w.Shift.Name p_w.Shift.Store (RdS.up q44 good_Str) (RdS.up q46 good_Idx) (RdS.up q51 good_Write) (okL.getD o4.1.2.1 ok_d_Table _) o4.1.1 o4.1.2.2.2) ?_))
 rintro v55 w52 ⟨A53, c53, lo53, hi53, rfl, h53, ho54, hrn57, hE56⟩
 have hE56z := Ex.size hE56
 refine sd rfl (yl_assign rfl rfl (dn (CW.seq (CW.seq (CW.region ?_)))))
 have q58 := Box.ex hB39 hE56
 refine sd rfl (yl_loadN ty34 rfl rfl (q58.cells (n := 3) rfl) rfl (sd rfl (yl_fieldAddr fd58_3 rfl rfl ?_)))
 have q59 := Box.ex q42 hE56
 refine sd rfl (yl_load1 ty36 rfl rfl ((q59.cell 3).trans rfl) ?_)
 have q60 := RdS.ex good_Str q44 hE56
 have q61 := RdS.ex good_Idx q46 hE56
 have q62 := RdS.ex good_Write q51 hE56
 refine sd rfl (yl_call en28 rfl (oc rfl (oc rfl oz)) (Cal.mono (c_s_l25Rows (p_w.Shift.Ways.getD 0 d_Table) p_w.Shift.Store (RdS.up q60 good_Str) (RdS.up q61 good_Idx) (RdS.up q62 good_Write) (okL.getD o4.1.2.1 ok_d_Table _) o4.1.2.2.2) ?_))
 rintro v66 w63 ⟨A64, c64, lo64, hi64, rfl, h64, ho65, hrn68, hE67⟩
 have hE67z := Ex.size hE67
 refine sd rfl (yl_len un29 rfl rfl (sd rfl (yl_move rfl rfl (dn (CW.block (CW.loop (fun m99 L100 w101 => ∃ (k69 : Nat), m99 = (s_l25Rows (p_w.Shift.Ways.getD 0 d_Table) p_w.Shift.Store).length - k69 ∧ k69 ≤ (s_l25Rows (p_w.Shift.Ways.getD 0 d_Table) p_w.Shift.Store).length ∧ w63.heap.size ≤ w101.heap.size ∧ lkp L100 1 = some (.pointer (some ⟨b11, 0, none⟩)) ∧ lkp L100 3 = some (.pointer (some ⟨b17, 0, none⟩)) ∧ lkp L100 4 = some (.pointer (some ⟨b32, 0, none⟩)) ∧ lkp L100 5 = some (.slice A53 ((s_l25Entries (p_w.Shift.Ways.getD 0 d_Table) p_w.Shift.Name p_w.Shift.Store).length) c53) ∧ lkp L100 24 = some (.slice A64 ((s_l25Rows (p_w.Shift.Ways.getD 0 d_Table) p_w.Shift.Store).length) c64) ∧ lkp L100 25 = some (.int .i64 (((s_l25Rows (p_w.Shift.Ways.getD 0 d_Table) p_w.Shift.Store).length : Int))) ∧ lkp L100 26 = some (.int .i64 ((k69 : Int))) ∧ Box w101 b11 61 [.string (bs (p_w.Shift.Name)), .slice A1 p_w.Shift.Ways.length c1, .slice A2 p_w.Shift.At.length c2, .slice A3 p_w.Shift.Store.length c3, .string (bs (p_w.Up.Last)), .bool (p_w.Up.Over), .string (bs (p_w.Down.Last)), .bool (p_w.Down.Over)] ∧ RdS w101 (Iv 0 w.heap.size) R_Table 3 A1 p_w.Shift.Ways.length c1 p_w.Shift.Ways ∧ RdS w101 (Iv 0 w.heap.size) (RF e_Int) 1 A2 p_w.Shift.At.length c2 p_w.Shift.At ∧ RdS w101 (Iv 0 w.heap.size) (RF e_Write) 3 A3 p_w.Shift.Store.length c3 p_w.Shift.Store ∧ Box w101 b17 58 [.string (bs (p_w.Shift.Name)), .slice A1 p_w.Shift.Ways.length c1, .slice A2 p_w.Shift.At.length c2, .slice A3 p_w.Shift.Store.length c3] ∧ Box w101 b32 34 [.string (bs ((p_w.Shift.Ways.getD 0 d_Table).Name)), .slice A30 (((p_w.Shift.Ways.getD 0 d_Table).Cols).length) c30, .slice A31 (((p_w.Shift.Ways.getD 0 d_Table).Idxs).length) c31] ∧ RdS w101 (Iv 0 w.heap.size) (RF e_Str) 1 A30 ((p_w.Shift.Ways.getD 0 d_Table).Cols).length c30 ((p_w.Shift.Ways.getD 0 d_Table).Cols) ∧ RdS w101 (Iv 0 w.heap.size) (RF e_Idx) 3 A31 ((p_w.Shift.Ways.getD 0 d_Table).Idxs).length c31 ((p_w.Shift.Ways.getD 0 d_Table).Idxs) ∧ OwnL w101 lo53 hi53 9 1 (RF e_Str) A53 ((s_l25Entries (p_w.Shift.Ways.getD 0 d_Table) p_w.Shift.Name p_w.Shift.Store).length) c53 (s_l25Entries (p_w.Shift.Ways.getD 0 d_Table) p_w.Shift.Name p_w.Shift.Store) ∧ OwnD w101 lo64 hi64 80 1 RO_Row A64 ((s_l25Rows (p_w.Shift.Ways.getD 0 d_Table) p_w.Shift.Store).length) c64 (s_l25Rows (p_w.Shift.Ways.getD 0 d_Table) p_w.Shift.Store) ∧ Ex w w101 ∧ loopM (B_s_l29Filled_0 p_w) ((s_l25Rows (p_w.Shift.Ways.getD 0 d_Table) p_w.Shift.Store).length - k69) k69 () = loopM (B_s_l29Filled_0 p_w) ((s_l25Rows (p_w.Shift.Ways.getD 0 d_Table) p_w.Shift.Store).length - 0) 0 ()) ((s_l25Rows (p_w.Shift.Ways.getD 0 d_Table) p_w.Shift.Store).length - 0) ?_ ?_))))))
 ·exact ⟨0, rfl, (by omega), Nat.le_refl _, rfl, rfl, rfl, rfl, rfl, rfl, rfl, (Box.ex (Box.ex (Box.only (Box.ex (Box.only (Box.ex hB15 hE22) hO25 (by omega)) hE37) hO40 (by omega)) hE56) hE67), (RdS.ex good_Table (RdS.ex good_Table (RdS.only good_Table (RdS.ex good_Table q28 hE37) hO40 (by simp only [Iv]; omega)) hE56) hE67), (RdS.ex good_Int (RdS.ex good_Int (RdS.only good_Int (RdS.ex good_Int (RdS.only good_Int (RdS.ex good_Int (RdS.ex good_Int h2 hE16) hE22) hO25 (by simp only [Iv]; omega)) hE37) hO40 (by simp only [Iv]; omega)) hE56) hE67), (RdS.ex good_Write q62 hE67), (Box.ex q59 hE67), (Box.ex q58 hE67), (RdS.ex good_Str q60 hE67), (RdS.ex good_Idx q61 hE67), (OwnL.ex good_Str h53 hE67), h64, (Ex.trans (Ex.trans (Below.only (Ex.trans (Below.only (Ex.trans (Ex.trans (Ex.refl w) hE16) hE22) hO25 (by omega)) hE37) hO40 (by omega)) hE56) hE67), rfl⟩
 ·rintro m132 L133 w134 ⟨k69, rfl, hk135, hsz137, hl138, hl139, hl140, hl141, hl142, hl143, hl144, hf145, hf146, hf147, hf148, hf149, hf150, hf151, hf152, hf153, hf154, hf155, hI136⟩
  refine CW.sub (Sub.cons hl138 (Sub.cons hl139 (Sub.cons hl140 (Sub.cons hl141 (Sub.cons hl142 (Sub.cons hl143 (Sub.cons hl144 (Sub.nil _)))))))) ?_
  have hf145z := Box.lt hf145
  have hf149z := Box.lt hf149
  have hf150z := Box.lt hf150
  have hf155z := Ex.size hf155
  have hbg156 := RdS.big (OwnL.rd good_Row (OwnD.own goodO_Row good_Row hf154))
  rcases Nat.lt_or_ge k69 ((s_l25Rows (p_w.Shift.Ways.getD 0 d_Table) p_w.Shift.Store).length) with hlt158 | hlt158
  ·have hrg := rows_at (p_w.Shift.Ways.getD 0 d_Table) p_w.Shift.Store hlt158
   obtain ⟨hr1, hr2⟩ := f_s_l25Good hrg
   refine CW.seq (CW.region (sd rfl (yl_lss rfl rfl rfl (dn (CW.seq (CW.cond_t rfl (lt_t hlt158) (CW.skip (tn ?_))))))))
   refine CW.seq (CW.block (CW.seq (CW.region ?_)))
   obtain ⟨_, _, _, eA160, _, ebl160, _, eR160, eC160⟩ := RdS.atD (OwnL.rd good_Row (OwnD.own goodO_Row good_Row hf154)) d_Row (i := k69) (by first | omega | assumption)
   obtain ⟨A161, c161, rfl, h161⟩ := eR160
   refine sd rfl (yl_ixN un29 ty80 rfl rfl rfl eA160 (sd rfl (yl_loadN ty80 rfl rfl eC160 rfl (sd rfl (yl_alloc ty80 (cs := [.slice none 0 0]) rfl rfl ?_)))))
   intro b162 w163 hs164 hz165 hB166 hE167
   refine SeqR.u rfl rfl (yl_store (vs := [.slice A161 ((((s_l25Rows (p_w.Shift.Ways.getD 0 d_Table) p_w.Shift.Store).getD k69 d_Row).Vals).length) c161]) ty80 rfl rfl rfl rfl rfl rfl hB166 (Nat.le_of_ble_eq_true rfl) ?_)
   intro w168 hB169 hO170
   have hB169 : Box w168 b162 80 [.slice A161 ((((s_l25Rows (p_w.Shift.Ways.getD 0 d_Table) p_w.Shift.Store).getD k69 d_Row).Vals).length) c161] := hB169
   have hO170z := hO170.size
   refine dn (CW.seq (bcase (p_w.Up.Over) (fun hb173 => ?_) (fun hb173 => ?_)))
   ·have q175 := Box.only (Box.ex hf145 hE167) hO170 (by omega)
    refine CW.drawsI 14 (vgetI ([.pointer (some ⟨b11, 0 + 4, none⟩), .pointer (some ⟨b11, 0 + 4 + 1, none⟩), .bool (p_w.Up.Over), .bool (p_w.Up.Over), undef, undef, undef, undef, undef, undef, undef, undef, .bool (true), .bool (true)].map DetI)) Tryz.follows rfl rfl rfl rfl rfl rfl (vgetI_stable (stD _)) ⟨?_, ?_, ?_, ?_, ?_, ?_, ?_, ?_, ?_, ?_, ?_, ?_, ?_, ?_, trivial⟩ ?_
    ·exact oI rfl fun h => yl_fieldAddr fd61_1 rfl (h.old 1 _ rfl rfl) kI
    ·exact oI rfl fun h => yl_fieldAddr fd59_1 rfl (h.dt 0 30 rfl rfl rfl) kI
    ·exact oI rfl fun h => yl_load1 ty4 rfl (h.dt 1 31 rfl rfl rfl) (((Box.ex q175 h.ex).cell 5).trans rfl) kI
    ·exact oI rfl fun h => yl_move rfl (h.dt 2 32 rfl rfl rfl) kI
    ·exact oS rfl rfl rfl rfl rfl hb173
    ·exact oS rfl rfl rfl rfl rfl hb173
    ·exact oS rfl rfl rfl rfl rfl hb173
    ·exact oS rfl rfl rfl rfl rfl hb173
    ·exact oS rfl rfl rfl rfl rfl hb173
    ·exact oS rfl rfl rfl rfl rfl hb173
    ·exact oS rfl rfl rfl rfl rfl hb173
    ·exact oS rfl rfl rfl rfl rfl hb173
    ·exact oI rfl fun h => yl_pick_t rfl (h.dt 3 33 rfl rfl rfl) hb173 rfl kI
    ·exact oI rfl fun h => yl_assign rfl (h.dt 12 42 rfl rfl rfl) kI
    ·intro fl251 fh252 L248 w249 hp250
     have hE253 := hp250.ex
     have hE253z := Ex.size hE253
     refine dn (CW.sub (Sub.cons (d := 1) (hp250.old 1 _ rfl rfl) (Sub.cons (d := 3) (hp250.old 3 _ rfl rfl) (Sub.cons (d := 4) (hp250.old 4 _ rfl rfl) (Sub.cons (d := 5) (hp250.old 5 _ rfl rfl) (Sub.cons (d := 7) (hp250.old 7 _ rfl rfl) (Sub.cons (d := 8) (hp250.nt 13 8 rfl rfl rfl) (Sub.cons (d := 24) (hp250.old 24 _ rfl rfl) (Sub.cons (d := 25) (hp250.old 25 _ rfl rfl) (Sub.cons (d := 26) (hp250.old 26 _ rfl rfl) (Sub.cons (d := 34) (hp250.nt 4 34 rfl rfl rfl) (Sub.cons (d := 35) (hp250.nt 5 35 rfl rfl rfl) (Sub.cons (d := 36) (hp250.nt 6 36 rfl rfl rfl) (Sub.cons (d := 37) (hp250.nt 7 37 rfl rfl rfl) (Sub.cons (d := 38) (hp250.nt 8 38 rfl rfl rfl) (Sub.cons (d := 39) (hp250.nt 9 39 rfl rfl rfl) (Sub.cons (d := 40) (hp250.nt 10 40 rfl rfl rfl) (Sub.cons (d := 41) (hp250.nt 11 41 rfl rfl rfl) (Sub.nil _)))))))))))))))))) (CW.seq ?_))
     have q273 := Box.ex (Box.only (Box.ex hf150 hE167) hO170 (by omega)) hE253
     have q276 := Box.ex (Box.only (Box.ex hf149 hE167) hO170 (by omega)) hE253
     have q279 := RdS.ex good_Str (RdS.only good_Str (RdS.ex good_Str hf151 hE167) hO170 (by simp only [Iv]; omega)) hE253
     have q282 := RdS.ex good_Idx (RdS.only good_Idx (RdS.ex good_Idx hf152 hE167) hO170 (by simp only [Iv]; omega)) hE253
     obtain ⟨eb284, eo284, _, eA284, _, ebl284, _, eR284, eC284⟩ := RdS.atD q282 d_Idx (i := ((s_l24Idx (p_w.Shift.Ways.getD 0 d_Table) p_w.Shift.Name)).toNat) (by first | omega | assumption | (simp only [wI] at *; omega))
     obtain rfl := eR284
     have eC284 : Cells w249 eb284 (eo284 + (((s_l24Idx (p_w.Shift.Ways.getD 0 d_Table) p_w.Shift.Name)).toNat) * 3) [.string (bs ((((p_w.Shift.Ways.getD 0 d_Table).Idxs).getD (((s_l24Idx (p_w.Shift.Ways.getD 0 d_Table) p_w.Shift.Name)).toNat) d_Idx).Name)), .int .i64 ((((p_w.Shift.Ways.getD 0 d_Table).Idxs).getD (((s_l24Idx (p_w.Shift.Ways.getD 0 d_Table) p_w.Shift.Name)).toNat) d_Idx).Col), .int .i64 ((((p_w.Shift.Ways.getD 0 d_Table).Idxs).getD (((s_l24Idx (p_w.Shift.Ways.getD 0 d_Table) p_w.Shift.Name)).toNat) d_Idx).Stage)] := eC284
     have q294 := OwnL.ex good_Str (OwnL.only good_Str (OwnL.ex good_Str hf153 hE167) hO170 (by omega)) hE253
     have hrf296 := rf_s_l24Idx (p_w.Shift.Ways.getD 0 d_Table) p_w.Shift.Name
     refine CW.drawsI 17 (vgetI [DetI (.bool (true)), DetI (.bool (true)), DetI (.slice A53 ((s_l25Entries (p_w.Shift.Ways.getD 0 d_Table) p_w.Shift.Name p_w.Shift.Store).length) c53), DetI (.agg #[.string (bs ((p_w.Shift.Ways.getD 0 d_Table).Name)), .slice A30 (((p_w.Shift.Ways.getD 0 d_Table).Cols).length) c30, .slice A31 (((p_w.Shift.Ways.getD 0 d_Table).Idxs).length) c31]), DetI (.pointer (some ⟨b32, 0 + 2, none⟩)), DetI (.slice A31 (((p_w.Shift.Ways.getD 0 d_Table).Idxs).length) c31), DetI (.agg #[.string (bs ((p_w.Shift.Ways.getD 0 d_Table).Name)), .slice A30 (((p_w.Shift.Ways.getD 0 d_Table).Cols).length) c30, .slice A31 (((p_w.Shift.Ways.getD 0 d_Table).Idxs).length) c31]), DetI (.pointer (some ⟨b17, 0 + 0, none⟩)), DetI (.string (bs (p_w.Shift.Name))), DetI (.int .i64 ((s_l24Idx (p_w.Shift.Ways.getD 0 d_Table) p_w.Shift.Name))), DetI (.pointer (some ⟨eb284, eo284 + (((s_l24Idx (p_w.Shift.Ways.getD 0 d_Table) p_w.Shift.Name)).toNat) * 3, none⟩)), DetI (.agg #[.string (bs ((((p_w.Shift.Ways.getD 0 d_Table).Idxs).getD (((s_l24Idx (p_w.Shift.Ways.getD 0 d_Table) p_w.Shift.Name)).toNat) d_Idx).Name)), .int .i64 ((((p_w.Shift.Ways.getD 0 d_Table).Idxs).getD (((s_l24Idx (p_w.Shift.Ways.getD 0 d_Table) p_w.Shift.Name)).toNat) d_Idx).Col), .int .i64 ((((p_w.Shift.Ways.getD 0 d_Table).Idxs).getD (((s_l24Idx (p_w.Shift.Ways.getD 0 d_Table) p_w.Shift.Name)).toNat) d_Idx).Stage)]), DetI (.agg #[.slice A161 ((((s_l25Rows (p_w.Shift.Ways.getD 0 d_Table) p_w.Shift.Store).getD k69 d_Row).Vals).length) c161]), fun lo hi v wq => v = .string (bs ((s_l25Entry (p_w.Shift.Ways.getD 0 d_Table) (((p_w.Shift.Ways.getD 0 d_Table).Idxs).getD (((s_l24Idx (p_w.Shift.Ways.getD 0 d_Table) p_w.Shift.Name)).toNat) d_Idx) ((s_l25Rows (p_w.Shift.Ways.getD 0 d_Table) p_w.Shift.Store).getD k69 d_Row)))) ∧ okS (s_l25Entry (p_w.Shift.Ways.getD 0 d_Table) (((p_w.Shift.Ways.getD 0 d_Table).Idxs).getD (((s_l24Idx (p_w.Shift.Ways.getD 0 d_Table) p_w.Shift.Name)).toNat) d_Idx) ((s_l25Rows (p_w.Shift.Ways.getD 0 d_Table) p_w.Shift.Store).getD k69 d_Row)), DetI (.int .i64 ((s_l24At (s_l25Entries (p_w.Shift.Ways.getD 0 d_Table) p_w.Shift.Name p_w.Shift.Store) (s_l25Entry (p_w.Shift.Ways.getD 0 d_Table) (((p_w.Shift.Ways.getD 0 d_Table).Idxs).getD (((s_l24Idx (p_w.Shift.Ways.getD 0 d_Table) p_w.Shift.Name)).toNat) d_Idx) ((s_l25Rows (p_w.Shift.Ways.getD 0 d_Table) p_w.Shift.Store).getD k69 d_Row))))), DetI (.bool (decide ((s_l24At (s_l25Entries (p_w.Shift.Ways.getD 0 d_Table) p_w.Shift.Name p_w.Shift.Store) (s_l25Entry (p_w.Shift.Ways.getD 0 d_Table) (((p_w.Shift.Ways.getD 0 d_Table).Idxs).getD (((s_l24Idx (p_w.Shift.Ways.getD 0 d_Table) p_w.Shift.Name)).toNat) d_Idx) ((s_l25Rows (p_w.Shift.Ways.getD 0 d_Table) p_w.Shift.Store).getD k69 d_Row))) < 0))), DetI (.bool (decide ((s_l24At (s_l25Entries (p_w.Shift.Ways.getD 0 d_Table) p_w.Shift.Name p_w.Shift.Store) (s_l25Entry (p_w.Shift.Ways.getD 0 d_Table) (((p_w.Shift.Ways.getD 0 d_Table).Idxs).getD (((s_l24Idx (p_w.Shift.Ways.getD 0 d_Table) p_w.Shift.Name)).toNat) d_Idx) ((s_l25Rows (p_w.Shift.Ways.getD 0 d_Table) p_w.Shift.Store).getD k69 d_Row))) < 0)))]) Tryz.follows rfl rfl rfl rfl rfl rfl (vgetI_stable ⟨StableI.det _, StableI.det _, StableI.det _, StableI.det _, StableI.det _, StableI.det _, StableI.det _, StableI.det _, StableI.det _, StableI.det _, StableI.det _, StableI.det _, StableI.det _, (fun _ _ _ _ _ ⟨hv, ho290⟩ e => ⟨hv, ho290⟩), StableI.det _, StableI.det _, StableI.det _, trivial⟩) ⟨?_, ?_, ?_, ?_, ?_, ?_, ?_, ?_, ?_, ?_, ?_, ?_, ?_, ?_, ?_, ?_, ?_, trivial⟩ ?_
     ·exact oI rfl fun h => yl_move rfl (h.old 8 _ rfl rfl) kI
     ·exact oI rfl fun h => yl_move rfl (h.dt 0 43 rfl rfl rfl) kI
     ·exact oW rfl rfl rfl rfl rfl fun h => yl_move rfl (h.old 5 _ rfl rfl) kI
     ·exact oW rfl rfl rfl rfl rfl fun h => yl_loadN ty34 rfl (h.old 4 _ rfl rfl) ((Box.ex q273 h.ex).cells (n := 3) rfl) rfl kI
     ·exact oW rfl rfl rfl rfl rfl fun h => yl_fieldAddr fd34_2 rfl (h.old 4 _ rfl rfl) kI
     ·exact oW rfl rfl rfl rfl rfl fun h => yl_load1 ty32 rfl (h.dt 4 47 rfl rfl rfl) (((Box.ex q273 h.ex).cell 2).trans rfl) kI
     ·exact oW rfl rfl rfl rfl rfl fun h => yl_loadN ty34 rfl (h.old 4 _ rfl rfl) ((Box.ex q273 h.ex).cells (n := 3) rfl) rfl kI
     ·exact oW rfl rfl rfl rfl rfl fun h => yl_fieldAddr fd58_0 rfl (h.old 3 _ rfl rfl) kI
     ·exact oW rfl rfl rfl rfl rfl fun h => yl_load1 ty9 rfl (h.dt 7 50 rfl rfl rfl) (((Box.ex q276 h.ex).cell 0).trans rfl) kI
     ·intro L353 w354 hi355
      have hE356 := hi355.ex
      exact OpR.want rfl rfl (hi355.dt 1 44 rfl rfl rfl) rfl (yl_call en81 rfl (oc (hi355.dt 6 49 rfl rfl rfl) (oc (hi355.dt 8 51 rfl rfl rfl) oz)) (Cal.mono (c_s_l24Idx (p_w.Shift.Ways.getD 0 d_Table) p_w.Shift.Name (RdS.up (RdS.ex good_Str q279 hE356) good_Str) (RdS.up (RdS.ex good_Idx q282 hE356) good_Idx) (okL.getD o4.1.2.1 ok_d_Table _) o4.1.1) fun _ _ h => h))
     ·intro L365 w366 hi367
      have hE368 := hi367.ex
      have hE368z := Ex.size hE368
      exact OpR.want rfl rfl (hi367.dt 1 44 rfl rfl rfl) rfl (Yl.sameI (yl_indexAddr un32 ty104 rfl (hi367.dt 5 48 rfl rfl rfl) (hi367.dt 9 52 rfl rfl rfl) eA284 (by first | omega | assumption | (simp only [wI] at *; omega)) (by first | omega | assumption | (simp only [wI] at *; omega)) kI))
     ·exact oW rfl rfl rfl rfl rfl fun h => yl_loadN ty104 rfl (h.dt 10 53 rfl rfl rfl) (Cells.ex eC284 h.ex) rfl kI
     ·exact oW rfl rfl rfl rfl rfl fun h => yl_loadN ty80 rfl (h.old 7 _ rfl rfl) ((Box.ex (Box.ex hB169 hE253) h.ex).cells (n := 1) rfl) rfl kI
     ·intro L386 w387 hi388
      have hE389 := hi388.ex
      have hE389z := Ex.size hE389
      refine OpR.want rfl rfl (hi388.dt 1 44 rfl rfl rfl) rfl (yl_call en80 rfl (oc (hi388.dt 3 46 rfl rfl rfl) (oc (hi388.dt 11 54 rfl rfl rfl) (oc (hi388.dt 12 55 rfl rfl rfl) oz))) (Cal.mono (c_s_l25Entry (p_w.Shift.Ways.getD 0 d_Table) (((p_w.Shift.Ways.getD 0 d_Table).Idxs).getD (((s_l24Idx (p_w.Shift.Ways.getD 0 d_Table) p_w.Shift.Name)).toNat) d_Idx) ((s_l25Rows (p_w.Shift.Ways.getD 0 d_Table) p_w.Shift.Store).getD k69 d_Row) (RdS.up (RdS.ex good_Str q279 hE389) good_Str) (RdS.up (RdS.ex good_Idx q282 hE389) good_Idx) (RdS.up (RdS.ex good_Str (RdS.ex good_Str (RdS.only good_Str (RdS.ex good_Str h161 hE167) hO170 (by simp only [Iv]; omega)) hE253) hE389) good_Str) (okL.getD o4.1.2.1 ok_d_Table _) (okL.getD ((okL.getD o4.1.2.1 ok_d_Table _).2.2) ok_d_Idx _) (okL.getD ho65 ok_d_Row _) (by first | omega | assumption | (simp only [wI] at *; omega)) (by first | omega | assumption | (simp only [wI] at *; omega)) (by first | omega | assumption | (simp only [wI] at *; omega))) ?_))
      rintro v399 w397 ⟨rfl, ho398, hE400⟩
      exact ⟨⟨rfl, ho398⟩, hE400⟩
     ·intro L401 w402 hi403
      have hE404 := hi403.ex
      obtain ⟨lo408, hh409, _, hx407, hr410, hr411, hr412, rfl, h413⟩ := hi403.dep 13 56 rfl rfl
      exact OpR.want rfl rfl (hi403.dt 1 44 rfl rfl rfl) rfl (yl_call en79 rfl (oc (hi403.dt 2 45 rfl rfl rfl) (oc hx407 oz)) (Cal.mono (c_s_l24At (s_l25Entries (p_w.Shift.Ways.getD 0 d_Table) p_w.Shift.Name p_w.Shift.Store) (s_l25Entry (p_w.Shift.Ways.getD 0 d_Table) (((p_w.Shift.Ways.getD 0 d_Table).Idxs).getD (((s_l24Idx (p_w.Shift.Ways.getD 0 d_Table) p_w.Shift.Name)).toNat) d_Idx) ((s_l25Rows (p_w.Shift.Ways.getD 0 d_Table) p_w.Shift.Store).getD k69 d_Row)) (RdS.up (OwnL.rd good_Str (OwnL.ex good_Str q294 hE404)) good_Str) ho54 h413) fun _ _ h => h))
     ·exact oW rfl rfl rfl rfl rfl fun h => yl_lss rfl (h.dt 14 57 rfl rfl rfl) rfl kI
     ·exact oI rfl fun h => yl_pick_t rfl (h.dt 1 44 rfl rfl rfl) rfl (h.dt 15 58 rfl rfl rfl) kI
     ·intro fl434 fh435 L431 w432 hp433
      have hE436 := hp433.ex
      have hE436z := Ex.size hE436
      obtain ⟨_, hx463, rfl, h464⟩ := hp433.new 13 56 rfl rfl
      refine dn (CW.sub (Sub.cons (d := 1) (hp433.old 1 _ rfl rfl) (Sub.cons (d := 3) (hp433.old 3 _ rfl rfl) (Sub.cons (d := 4) (hp433.old 4 _ rfl rfl) (Sub.cons (d := 5) (hp433.old 5 _ rfl rfl) (Sub.cons (d := 24) (hp433.old 24 _ rfl rfl) (Sub.cons (d := 25) (hp433.old 25 _ rfl rfl) (Sub.cons (d := 26) (hp433.old 26 _ rfl rfl) (Sub.cons (d := 34) (hp433.old 34 _ rfl rfl) (Sub.cons (d := 35) (hp433.old 35 _ rfl rfl) (Sub.cons (d := 36) (hp433.old 36 _ rfl rfl) (Sub.cons (d := 37) (hp433.old 37 _ rfl rfl) (Sub.cons (d := 38) (hp433.old 38 _ rfl rfl) (Sub.cons (d := 39) (hp433.old 39 _ rfl rfl) (Sub.cons (d := 40) (hp433.old 40 _ rfl rfl) (Sub.cons (d := 41) (hp433.old 41 _ rfl rfl) (Sub.cons (d := 45) (hp433.nt 2 45 rfl rfl rfl) (Sub.cons (d := 46) (hp433.nt 3 46 rfl rfl rfl) (Sub.cons (d := 47) (hp433.nt 4 47 rfl rfl rfl) (Sub.cons (d := 48) (hp433.nt 5 48 rfl rfl rfl) (Sub.cons (d := 49) (hp433.nt 6 49 rfl rfl rfl) (Sub.cons (d := 50) (hp433.nt 7 50 rfl rfl rfl) (Sub.cons (d := 51) (hp433.nt 8 51 rfl rfl rfl) (Sub.cons (d := 52) (hp433.nt 9 52 rfl rfl rfl) (Sub.cons (d := 53) (hp433.nt 10 53 rfl rfl rfl) (Sub.cons (d := 54) (hp433.nt 11 54 rfl rfl rfl) (Sub.cons (d := 55) (hp433.nt 12 55 rfl rfl rfl) (Sub.cons (d := 56) hx463 (Sub.cons (d := 57) (hp433.nt 14 57 rfl rfl rfl) (Sub.cons (d := 58) (hp433.nt 15 58 rfl rfl rfl) (Sub.cons (d := 59) (hp433.nt 16 59 rfl rfl rfl) (Sub.nil _))))))))))))))))))))))))))))))) (bcase (decide ((s_l24At (s_l25Entries (p_w.Shift.Ways.getD 0 d_Table) p_w.Shift.Name p_w.Shift.Store) (s_l25Entry (p_w.Shift.Ways.getD 0 d_Table) (((p_w.Shift.Ways.getD 0 d_Table).Idxs).getD (((s_l24Idx (p_w.Shift.Ways.getD 0 d_Table) p_w.Shift.Name)).toNat) d_Idx) ((s_l25Rows (p_w.Shift.Ways.getD 0 d_Table) p_w.Shift.Store).getD k69 d_Row))) < 0)) (fun hb468 => ?_) (fun hb468 => ?_)))
      ·have hb468p := dec_t hb468
       refine CW.cond_t rfl hb468 (CW.seq (CW.region (sd rfl (yl_assign rfl rfl (dn (CW.ret (br (tr ?_))))))))
       refine tr ?_
       have hB470 : B_s_l29Filled_0 p_w k69 () = .ret false := by simp only [B_s_l29Filled_0, hb173, hb468, cL]
       have hL469 : loopM (B_s_l29Filled_0 p_w) ((s_l25Rows (p_w.Shift.Ways.getD 0 d_Table) p_w.Shift.Store).length - 0) 0 () = .ret false := hI136.symm.trans (loopM.ret hlt158 hB470)
       refine br (tr (rr rfl (.cons rfl .nil) ?_))
       have hM471 : (s_l29Filled p_w) = (false) := by simp only [s_l29Filled, hb173, hb468, hL469, cL]
       rw [hM471]
       exact ⟨rfl, (Ex.trans (Ex.trans (Below.only (Ex.trans hf155 hE167) hO170 (by omega)) hE253) hE436)⟩
      ·have hb468p := dec_f hb468
       refine CW.cond_f rfl hb468 (CW.skip (bn (tn (CW.region (sd rfl (yl_inc rfl rfl rfl (by omega) (sd rfl (yl_move rfl rfl (dn ?_)))))))))
       have hB476 : B_s_l29Filled_0 p_w k69 () = .cont () := by simp only [B_s_l29Filled_0, hb173, hb468, cL]
       exact ⟨(s_l25Rows (p_w.Shift.Ways.getD 0 d_Table) p_w.Shift.Store).length - (k69 + 1), by omega, k69 + 1, rfl, hlt158, (by omega), rfl, rfl, rfl, rfl, rfl, rfl, rfl, (Box.ex (Box.ex q175 hE253) hE436), (RdS.ex good_Table (RdS.ex good_Table (RdS.only good_Table (RdS.ex good_Table hf146 hE167) hO170 (by simp only [Iv]; omega)) hE253) hE436), (RdS.ex good_Int (RdS.ex good_Int (RdS.only good_Int (RdS.ex good_Int hf147 hE167) hO170 (by simp only [Iv]; omega)) hE253) hE436), (RdS.ex good_Write (RdS.ex good_Write (RdS.only good_Write (RdS.ex good_Write hf148 hE167) hO170 (by simp only [Iv]; omega)) hE253) hE436), (Box.ex q276 hE436), (Box.ex q273 hE436), (RdS.ex good_Str q279 hE436), (RdS.ex good_Idx q282 hE436), (OwnL.ex good_Str q294 hE436), (OwnD.ex goodO_Row (OwnD.ex goodO_Row (OwnD.only goodO_Row (OwnD.ex goodO_Row hf154 hE167) hO170 (by omega)) hE253) hE436), (Ex.trans (Ex.trans (Below.only (Ex.trans hf155 hE167) hO170 (by omega)) hE253) hE436), (loopM.cont hlt158 hB476).symm.trans hI136⟩
   ·have q505 := Box.only (Box.ex hf145 hE167) hO170 (by omega)
    have q507 := Box.only (Box.ex hf150 hE167) hO170 (by omega)
    have q509 := RdS.only good_Str (RdS.ex good_Str hf151 hE167) hO170 (by simp only [Iv]; omega)
    have q511 := RdS.only good_Idx (RdS.ex good_Idx hf152 hE167) hO170 (by simp only [Iv]; omega)
    have q513 := RdS.only good_Str (RdS.ex good_Str h161 hE167) hO170 (by simp only [Iv]; omega)
    refine CW.drawsI 14 (vgetI ([.pointer (some ⟨b11, 0 + 4, none⟩), .pointer (some ⟨b11, 0 + 4 + 1, none⟩), .bool (p_w.Up.Over), .bool (p_w.Up.Over), .agg #[.string (bs ((p_w.Shift.Ways.getD 0 d_Table).Name)), .slice A30 (((p_w.Shift.Ways.getD 0 d_Table).Cols).length) c30, .slice A31 (((p_w.Shift.Ways.getD 0 d_Table).Idxs).length) c31], .agg #[.slice A161 ((((s_l25Rows (p_w.Shift.Ways.getD 0 d_Table) p_w.Shift.Store).getD k69 d_Row).Vals).length) c161], .agg #[.string (bs ((s_l25Write (p_w.Shift.Ways.getD 0 d_Table) ((s_l25Rows (p_w.Shift.Ways.getD 0 d_Table) p_w.Shift.Store).getD k69 d_Row)).Key)), .string (bs ((s_l25Write (p_w.Shift.Ways.getD 0 d_Table) ((s_l25Rows (p_w.Shift.Ways.getD 0 d_Table) p_w.Shift.Store).getD k69 d_Row)).Val)), .bool ((s_l25Write (p_w.Shift.Ways.getD 0 d_Table) ((s_l25Rows (p_w.Shift.Ways.getD 0 d_Table) p_w.Shift.Store).getD k69 d_Row)).Gone)], .string (bs ((s_l25Write (p_w.Shift.Ways.getD 0 d_Table) ((s_l25Rows (p_w.Shift.Ways.getD 0 d_Table) p_w.Shift.Store).getD k69 d_Row)).Key)), .pointer (some ⟨b11, 0 + 4, none⟩), .pointer (some ⟨b11, 0 + 4 + 0, none⟩), .string (bs (p_w.Up.Last)), .bool (sLe ((s_l25Write (p_w.Shift.Ways.getD 0 d_Table) ((s_l25Rows (p_w.Shift.Ways.getD 0 d_Table) p_w.Shift.Store).getD k69 d_Row)).Key) p_w.Up.Last), .bool (sLe ((s_l25Write (p_w.Shift.Ways.getD 0 d_Table) ((s_l25Rows (p_w.Shift.Ways.getD 0 d_Table) p_w.Shift.Store).getD k69 d_Row)).Key) p_w.Up.Last), .bool (sLe ((s_l25Write (p_w.Shift.Ways.getD 0 d_Table) ((s_l25Rows (p_w.Shift.Ways.getD 0 d_Table) p_w.Shift.Store).getD k69 d_Row)).Key) p_w.Up.Last)].map DetI)) Tryz.follows rfl rfl rfl rfl rfl rfl (vgetI_stable (stD _)) ⟨?_, ?_, ?_, ?_, ?_, ?_, ?_, ?_, ?_, ?_, ?_, ?_, ?_, ?_, trivial⟩ ?_
    ·exact oI rfl fun h => yl_fieldAddr fd61_1 rfl (h.old 1 _ rfl rfl) kI
    ·exact oI rfl fun h => yl_fieldAddr fd59_1 rfl (h.dt 0 30 rfl rfl rfl) kI
    ·exact oI rfl fun h => yl_load1 ty4 rfl (h.dt 1 31 rfl rfl rfl) (((Box.ex q505 h.ex).cell 5).trans rfl) kI
    ·exact oI rfl fun h => yl_move rfl (h.dt 2 32 rfl rfl rfl) kI
    ·exact oW rfl rfl rfl rfl hb173 fun h => yl_loadN ty34 rfl (h.old 4 _ rfl rfl) ((Box.ex q507 h.ex).cells (n := 3) rfl) rfl kI
    ·exact oW rfl rfl rfl rfl hb173 fun h => yl_loadN ty80 rfl (h.old 7 _ rfl rfl) ((Box.ex hB169 h.ex).cells (n := 1) rfl) rfl kI
    ·intro L550 w551 hi552
     have hE553 := hi552.ex
     have hE553z := Ex.size hE553
     exact OpR.want rfl rfl (hi552.dt 3 33 rfl rfl rfl) hb173 (yl_call en78 rfl (oc (hi552.dt 4 34 rfl rfl rfl) (oc (hi552.dt 5 35 rfl rfl rfl) oz)) (Cal.mono (c_s_l25Write (p_w.Shift.Ways.getD 0 d_Table) ((s_l25Rows (p_w.Shift.Ways.getD 0 d_Table) p_w.Shift.Store).getD k69 d_Row) (RdS.up (RdS.ex good_Str q509 hE553) good_Str) (RdS.up (RdS.ex good_Idx q511 hE553) good_Idx) (RdS.up (RdS.ex good_Str q513 hE553) good_Str) (okL.getD o4.1.2.1 ok_d_Table _) (okL.getD ho65 ok_d_Row _) (by first | omega | assumption | (simp only [wI] at *; omega))) fun _ _ h => h))
    ·exact oW rfl rfl rfl rfl hb173 fun h => yl_field1 fd75_0 rfl (h.dt 6 36 rfl rfl rfl) rfl kI
    ·exact oW rfl rfl rfl rfl hb173 fun h => yl_fieldAddr fd61_1 rfl (h.old 1 _ rfl rfl) kI
    ·exact oW rfl rfl rfl rfl hb173 fun h => yl_fieldAddr fd59_0 rfl (h.dt 8 38 rfl rfl rfl) kI
    ·exact oW rfl rfl rfl rfl hb173 fun h => yl_load1 ty9 rfl (h.dt 9 39 rfl rfl rfl) (((Box.ex q505 h.ex).cell 4).trans rfl) kI
    ·exact oW rfl rfl rfl rfl hb173 fun h => yl_sleq (a := ((s_l25Write (p_w.Shift.Ways.getD 0 d_Table) ((s_l25Rows (p_w.Shift.Ways.getD 0 d_Table) p_w.Shift.Store).getD k69 d_Row)).Key)) (b := p_w.Up.Last) rfl (h.dt 7 37 rfl rfl rfl) (h.dt 10 40 rfl rfl rfl) kI
    ·exact oI rfl fun h => yl_pick_f rfl (h.dt 3 33 rfl rfl rfl) hb173 (h.dt 11 41 rfl rfl rfl) kI
    ·exact oI rfl fun h => yl_assign rfl (h.dt 12 42 rfl rfl rfl) kI
    ·intro fl609 fh610 L606 w607 hp608
     have hE611 := hp608.ex
     have hE611z := Ex.size hE611
     refine dn (CW.sub (Sub.cons (d := 1) (hp608.old 1 _ rfl rfl) (Sub.cons (d := 3) (hp608.old 3 _ rfl rfl) (Sub.cons (d := 4) (hp608.old 4 _ rfl rfl) (Sub.cons (d := 5) (hp608.old 5 _ rfl rfl) (Sub.cons (d := 7) (hp608.old 7 _ rfl rfl) (Sub.cons (d := 8) (hp608.nt 13 8 rfl rfl rfl) (Sub.cons (d := 24) (hp608.old 24 _ rfl rfl) (Sub.cons (d := 25) (hp608.old 25 _ rfl rfl) (Sub.cons (d := 26) (hp608.old 26 _ rfl rfl) (Sub.cons (d := 34) (hp608.nt 4 34 rfl rfl rfl) (Sub.cons (d := 35) (hp608.nt 5 35 rfl rfl rfl) (Sub.cons (d := 36) (hp608.nt 6 36 rfl rfl rfl) (Sub.cons (d := 37) (hp608.nt 7 37 rfl rfl rfl) (Sub.cons (d := 38) (hp608.nt 8 38 rfl rfl rfl) (Sub.cons (d := 39) (hp608.nt 9 39 rfl rfl rfl) (Sub.cons (d := 40) (hp608.nt 10 40 rfl rfl rfl) (Sub.cons (d := 41) (hp608.nt 11 41 rfl rfl rfl) (Sub.nil _)))))))))))))))))) (CW.seq (bcase (sLe ((s_l25Write (p_w.Shift.Ways.getD 0 d_Table) ((s_l25Rows (p_w.Shift.Ways.getD 0 d_Table) p_w.Shift.Store).getD k69 d_Row)).Key) p_w.Up.Last) (fun hb629 => ?_) (fun hb629 => ?_))))
     ·have q630 := Box.ex q507 hE611
      have q633 := Box.ex (Box.only (Box.ex hf149 hE167) hO170 (by omega)) hE611
      have q634 := RdS.ex good_Str q509 hE611
      have q635 := RdS.ex good_Idx q511 hE611
      obtain ⟨eb637, eo637, _, eA637, _, ebl637, _, eR637, eC637⟩ := RdS.atD q635 d_Idx (i := ((s_l24Idx (p_w.Shift.Ways.getD 0 d_Table) p_w.Shift.Name)).toNat) (by first | omega | assumption | (simp only [wI] at *; omega))
      obtain rfl := eR637
      have eC637 : Cells w607 eb637 (eo637 + (((s_l24Idx (p_w.Shift.Ways.getD 0 d_Table) p_w.Shift.Name)).toNat) * 3) [.string (bs ((((p_w.Shift.Ways.getD 0 d_Table).Idxs).getD (((s_l24Idx (p_w.Shift.Ways.getD 0 d_Table) p_w.Shift.Name)).toNat) d_Idx).Name)), .int .i64 ((((p_w.Shift.Ways.getD 0 d_Table).Idxs).getD (((s_l24Idx (p_w.Shift.Ways.getD 0 d_Table) p_w.Shift.Name)).toNat) d_Idx).Col), .int .i64 ((((p_w.Shift.Ways.getD 0 d_Table).Idxs).getD (((s_l24Idx (p_w.Shift.Ways.getD 0 d_Table) p_w.Shift.Name)).toNat) d_Idx).Stage)] := eC637
      have q645 := OwnL.ex good_Str (OwnL.only good_Str (OwnL.ex good_Str hf153 hE167) hO170 (by omega)) hE611
      have hrf647 := rf_s_l24Idx (p_w.Shift.Ways.getD 0 d_Table) p_w.Shift.Name
      refine CW.drawsI 17 (vgetI [DetI (.bool (sLe ((s_l25Write (p_w.Shift.Ways.getD 0 d_Table) ((s_l25Rows (p_w.Shift.Ways.getD 0 d_Table) p_w.Shift.Store).getD k69 d_Row)).Key) p_w.Up.Last)), DetI (.bool (sLe ((s_l25Write (p_w.Shift.Ways.getD 0 d_Table) ((s_l25Rows (p_w.Shift.Ways.getD 0 d_Table) p_w.Shift.Store).getD k69 d_Row)).Key) p_w.Up.Last)), DetI (.slice A53 ((s_l25Entries (p_w.Shift.Ways.getD 0 d_Table) p_w.Shift.Name p_w.Shift.Store).length) c53), DetI (.agg #[.string (bs ((p_w.Shift.Ways.getD 0 d_Table).Name)), .slice A30 (((p_w.Shift.Ways.getD 0 d_Table).Cols).length) c30, .slice A31 (((p_w.Shift.Ways.getD 0 d_Table).Idxs).length) c31]), DetI (.pointer (some ⟨b32, 0 + 2, none⟩)), DetI (.slice A31 (((p_w.Shift.Ways.getD 0 d_Table).Idxs).length) c31), DetI (.agg #[.string (bs ((p_w.Shift.Ways.getD 0 d_Table).Name)), .slice A30 (((p_w.Shift.Ways.getD 0 d_Table).Cols).length) c30, .slice A31 (((p_w.Shift.Ways.getD 0 d_Table).Idxs).length) c31]), DetI (.pointer (some ⟨b17, 0 + 0, none⟩)), DetI (.string (bs (p_w.Shift.Name))), DetI (.int .i64 ((s_l24Idx (p_w.Shift.Ways.getD 0 d_Table) p_w.Shift.Name))), DetI (.pointer (some ⟨eb637, eo637 + (((s_l24Idx (p_w.Shift.Ways.getD 0 d_Table) p_w.Shift.Name)).toNat) * 3, none⟩)), DetI (.agg #[.string (bs ((((p_w.Shift.Ways.getD 0 d_Table).Idxs).getD (((s_l24Idx (p_w.Shift.Ways.getD 0 d_Table) p_w.Shift.Name)).toNat) d_Idx).Name)), .int .i64 ((((p_w.Shift.Ways.getD 0 d_Table).Idxs).getD (((s_l24Idx (p_w.Shift.Ways.getD 0 d_Table) p_w.Shift.Name)).toNat) d_Idx).Col), .int .i64 ((((p_w.Shift.Ways.getD 0 d_Table).Idxs).getD (((s_l24Idx (p_w.Shift.Ways.getD 0 d_Table) p_w.Shift.Name)).toNat) d_Idx).Stage)]), DetI (.agg #[.slice A161 ((((s_l25Rows (p_w.Shift.Ways.getD 0 d_Table) p_w.Shift.Store).getD k69 d_Row).Vals).length) c161]), fun lo hi v wq => v = .string (bs ((s_l25Entry (p_w.Shift.Ways.getD 0 d_Table) (((p_w.Shift.Ways.getD 0 d_Table).Idxs).getD (((s_l24Idx (p_w.Shift.Ways.getD 0 d_Table) p_w.Shift.Name)).toNat) d_Idx) ((s_l25Rows (p_w.Shift.Ways.getD 0 d_Table) p_w.Shift.Store).getD k69 d_Row)))) ∧ okS (s_l25Entry (p_w.Shift.Ways.getD 0 d_Table) (((p_w.Shift.Ways.getD 0 d_Table).Idxs).getD (((s_l24Idx (p_w.Shift.Ways.getD 0 d_Table) p_w.Shift.Name)).toNat) d_Idx) ((s_l25Rows (p_w.Shift.Ways.getD 0 d_Table) p_w.Shift.Store).getD k69 d_Row)), DetI (.int .i64 ((s_l24At (s_l25Entries (p_w.Shift.Ways.getD 0 d_Table) p_w.Shift.Name p_w.Shift.Store) (s_l25Entry (p_w.Shift.Ways.getD 0 d_Table) (((p_w.Shift.Ways.getD 0 d_Table).Idxs).getD (((s_l24Idx (p_w.Shift.Ways.getD 0 d_Table) p_w.Shift.Name)).toNat) d_Idx) ((s_l25Rows (p_w.Shift.Ways.getD 0 d_Table) p_w.Shift.Store).getD k69 d_Row))))), DetI (.bool (decide ((s_l24At (s_l25Entries (p_w.Shift.Ways.getD 0 d_Table) p_w.Shift.Name p_w.Shift.Store) (s_l25Entry (p_w.Shift.Ways.getD 0 d_Table) (((p_w.Shift.Ways.getD 0 d_Table).Idxs).getD (((s_l24Idx (p_w.Shift.Ways.getD 0 d_Table) p_w.Shift.Name)).toNat) d_Idx) ((s_l25Rows (p_w.Shift.Ways.getD 0 d_Table) p_w.Shift.Store).getD k69 d_Row))) < 0))), DetI (.bool (decide ((s_l24At (s_l25Entries (p_w.Shift.Ways.getD 0 d_Table) p_w.Shift.Name p_w.Shift.Store) (s_l25Entry (p_w.Shift.Ways.getD 0 d_Table) (((p_w.Shift.Ways.getD 0 d_Table).Idxs).getD (((s_l24Idx (p_w.Shift.Ways.getD 0 d_Table) p_w.Shift.Name)).toNat) d_Idx) ((s_l25Rows (p_w.Shift.Ways.getD 0 d_Table) p_w.Shift.Store).getD k69 d_Row))) < 0)))]) Tryz.follows rfl rfl rfl rfl rfl rfl (vgetI_stable ⟨StableI.det _, StableI.det _, StableI.det _, StableI.det _, StableI.det _, StableI.det _, StableI.det _, StableI.det _, StableI.det _, StableI.det _, StableI.det _, StableI.det _, StableI.det _, (fun _ _ _ _ _ ⟨hv, ho641⟩ e => ⟨hv, ho641⟩), StableI.det _, StableI.det _, StableI.det _, trivial⟩) ⟨?_, ?_, ?_, ?_, ?_, ?_, ?_, ?_, ?_, ?_, ?_, ?_, ?_, ?_, ?_, ?_, ?_, trivial⟩ ?_
      ·exact oI rfl fun h => yl_move rfl (h.old 8 _ rfl rfl) kI
      ·exact oI rfl fun h => yl_move rfl (h.dt 0 43 rfl rfl rfl) kI
      ·exact oW rfl rfl rfl rfl hb629 fun h => yl_move rfl (h.old 5 _ rfl rfl) kI
      ·exact oW rfl rfl rfl rfl hb629 fun h => yl_loadN ty34 rfl (h.old 4 _ rfl rfl) ((Box.ex q630 h.ex).cells (n := 3) rfl) rfl kI
      ·exact oW rfl rfl rfl rfl hb629 fun h => yl_fieldAddr fd34_2 rfl (h.old 4 _ rfl rfl) kI
      ·exact oW rfl rfl rfl rfl hb629 fun h => yl_load1 ty32 rfl (h.dt 4 47 rfl rfl rfl) (((Box.ex q630 h.ex).cell 2).trans rfl) kI
      ·exact oW rfl rfl rfl rfl hb629 fun h => yl_loadN ty34 rfl (h.old 4 _ rfl rfl) ((Box.ex q630 h.ex).cells (n := 3) rfl) rfl kI
      ·exact oW rfl rfl rfl rfl hb629 fun h => yl_fieldAddr fd58_0 rfl (h.old 3 _ rfl rfl) kI
      ·exact oW rfl rfl rfl rfl hb629 fun h => yl_load1 ty9 rfl (h.dt 7 50 rfl rfl rfl) (((Box.ex q633 h.ex).cell 0).trans rfl) kI
      ·intro L704 w705 hi706
       have hE707 := hi706.ex
       exact OpR.want rfl rfl (hi706.dt 1 44 rfl rfl rfl) hb629 (yl_call en81 rfl (oc (hi706.dt 6 49 rfl rfl rfl) (oc (hi706.dt 8 51 rfl rfl rfl) oz)) (Cal.mono (c_s_l24Idx (p_w.Shift.Ways.getD 0 d_Table) p_w.Shift.Name (RdS.up (RdS.ex good_Str q634 hE707) good_Str) (RdS.up (RdS.ex good_Idx q635 hE707) good_Idx) (okL.getD o4.1.2.1 ok_d_Table _) o4.1.1) fun _ _ h => h))
      ·intro L716 w717 hi718
       have hE719 := hi718.ex
       have hE719z := Ex.size hE719
       exact OpR.want rfl rfl (hi718.dt 1 44 rfl rfl rfl) hb629 (Yl.sameI (yl_indexAddr un32 ty104 rfl (hi718.dt 5 48 rfl rfl rfl) (hi718.dt 9 52 rfl rfl rfl) eA637 (by first | omega | assumption | (simp only [wI] at *; omega)) (by first | omega | assumption | (simp only [wI] at *; omega)) kI))
      ·exact oW rfl rfl rfl rfl hb629 fun h => yl_loadN ty104 rfl (h.dt 10 53 rfl rfl rfl) (Cells.ex eC637 h.ex) rfl kI
      ·exact oW rfl rfl rfl rfl hb629 fun h => yl_loadN ty80 rfl (h.old 7 _ rfl rfl) ((Box.ex (Box.ex hB169 hE611) h.ex).cells (n := 1) rfl) rfl kI
      ·intro L737 w738 hi739
       have hE740 := hi739.ex
       have hE740z := Ex.size hE740
       refine OpR.want rfl rfl (hi739.dt 1 44 rfl rfl rfl) hb629 (yl_call en80 rfl (oc (hi739.dt 3 46 rfl rfl rfl) (oc (hi739.dt 11 54 rfl rfl rfl) (oc (hi739.dt 12 55 rfl rfl rfl) oz))) (Cal.mono (c_s_l25Entry (p_w.Shift.Ways.getD 0 d_Table) (((p_w.Shift.Ways.getD 0 d_Table).Idxs).getD (((s_l24Idx (p_w.Shift.Ways.getD 0 d_Table) p_w.Shift.Name)).toNat) d_Idx) ((s_l25Rows (p_w.Shift.Ways.getD 0 d_Table) p_w.Shift.Store).getD k69 d_Row) (RdS.up (RdS.ex good_Str q634 hE740) good_Str) (RdS.up (RdS.ex good_Idx q635 hE740) good_Idx) (RdS.up (RdS.ex good_Str (RdS.ex good_Str q513 hE611) hE740) good_Str) (okL.getD o4.1.2.1 ok_d_Table _) (okL.getD ((okL.getD o4.1.2.1 ok_d_Table _).2.2) ok_d_Idx _) (okL.getD ho65 ok_d_Row _) (by first | omega | assumption | (simp only [wI] at *; omega)) (by first | omega | assumption | (simp only [wI] at *; omega)) (by first | omega | assumption | (simp only [wI] at *; omega))) ?_))
       rintro v750 w748 ⟨rfl, ho749, hE751⟩
       exact ⟨⟨rfl, ho749⟩, hE751⟩
      ·intro L752 w753 hi754
       have hE755 := hi754.ex
       obtain ⟨lo759, hh760, _, hx758, hr761, hr762, hr763, rfl, h764⟩ := hi754.dep 13 56 rfl rfl
       exact OpR.want rfl rfl (hi754.dt 1 44 rfl rfl rfl) hb629 (yl_call en79 rfl (oc (hi754.dt 2 45 rfl rfl rfl) (oc hx758 oz)) (Cal.mono (c_s_l24At (s_l25Entries (p_w.Shift.Ways.getD 0 d_Table) p_w.Shift.Name p_w.Shift.Store) (s_l25Entry (p_w.Shift.Ways.getD 0 d_Table) (((p_w.Shift.Ways.getD 0 d_Table).Idxs).getD (((s_l24Idx (p_w.Shift.Ways.getD 0 d_Table) p_w.Shift.Name)).toNat) d_Idx) ((s_l25Rows (p_w.Shift.Ways.getD 0 d_Table) p_w.Shift.Store).getD k69 d_Row)) (RdS.up (OwnL.rd good_Str (OwnL.ex good_Str q645 hE755)) good_Str) ho54 h764) fun _ _ h => h))
      ·exact oW rfl rfl rfl rfl hb629 fun h => yl_lss rfl (h.dt 14 57 rfl rfl rfl) rfl kI
      ·exact oI rfl fun h => yl_pick_t rfl (h.dt 1 44 rfl rfl rfl) hb629 (h.dt 15 58 rfl rfl rfl) kI
      ·intro fl785 fh786 L782 w783 hp784
       have hE787 := hp784.ex
       have hE787z := Ex.size hE787
       obtain ⟨_, hx814, rfl, h815⟩ := hp784.new 13 56 rfl rfl
       refine dn (CW.sub (Sub.cons (d := 1) (hp784.old 1 _ rfl rfl) (Sub.cons (d := 3) (hp784.old 3 _ rfl rfl) (Sub.cons (d := 4) (hp784.old 4 _ rfl rfl) (Sub.cons (d := 5) (hp784.old 5 _ rfl rfl) (Sub.cons (d := 24) (hp784.old 24 _ rfl rfl) (Sub.cons (d := 25) (hp784.old 25 _ rfl rfl) (Sub.cons (d := 26) (hp784.old 26 _ rfl rfl) (Sub.cons (d := 34) (hp784.old 34 _ rfl rfl) (Sub.cons (d := 35) (hp784.old 35 _ rfl rfl) (Sub.cons (d := 36) (hp784.old 36 _ rfl rfl) (Sub.cons (d := 37) (hp784.old 37 _ rfl rfl) (Sub.cons (d := 38) (hp784.old 38 _ rfl rfl) (Sub.cons (d := 39) (hp784.old 39 _ rfl rfl) (Sub.cons (d := 40) (hp784.old 40 _ rfl rfl) (Sub.cons (d := 41) (hp784.old 41 _ rfl rfl) (Sub.cons (d := 45) (hp784.nt 2 45 rfl rfl rfl) (Sub.cons (d := 46) (hp784.nt 3 46 rfl rfl rfl) (Sub.cons (d := 47) (hp784.nt 4 47 rfl rfl rfl) (Sub.cons (d := 48) (hp784.nt 5 48 rfl rfl rfl) (Sub.cons (d := 49) (hp784.nt 6 49 rfl rfl rfl) (Sub.cons (d := 50) (hp784.nt 7 50 rfl rfl rfl) (Sub.cons (d := 51) (hp784.nt 8 51 rfl rfl rfl) (Sub.cons (d := 52) (hp784.nt 9 52 rfl rfl rfl) (Sub.cons (d := 53) (hp784.nt 10 53 rfl rfl rfl) (Sub.cons (d := 54) (hp784.nt 11 54 rfl rfl rfl) (Sub.cons (d := 55) (hp784.nt 12 55 rfl rfl rfl) (Sub.cons (d := 56) hx814 (Sub.cons (d := 57) (hp784.nt 14 57 rfl rfl rfl) (Sub.cons (d := 58) (hp784.nt 15 58 rfl rfl rfl) (Sub.cons (d := 59) (hp784.nt 16 59 rfl rfl rfl) (Sub.nil _))))))))))))))))))))))))))))))) (bcase (decide ((s_l24At (s_l25Entries (p_w.Shift.Ways.getD 0 d_Table) p_w.Shift.Name p_w.Shift.Store) (s_l25Entry (p_w.Shift.Ways.getD 0 d_Table) (((p_w.Shift.Ways.getD 0 d_Table).Idxs).getD (((s_l24Idx (p_w.Shift.Ways.getD 0 d_Table) p_w.Shift.Name)).toNat) d_Idx) ((s_l25Rows (p_w.Shift.Ways.getD 0 d_Table) p_w.Shift.Store).getD k69 d_Row))) < 0)) (fun hb819 => ?_) (fun hb819 => ?_)))
       ·have hb819p := dec_t hb819
        refine CW.cond_t rfl hb819 (CW.seq (CW.region (sd rfl (yl_assign rfl rfl (dn (CW.ret (br (tr ?_))))))))
        refine tr ?_
        have hB821 : B_s_l29Filled_0 p_w k69 () = .ret false := by simp only [B_s_l29Filled_0, hb173, hb629, hb819, cL]
        have hL820 : loopM (B_s_l29Filled_0 p_w) ((s_l25Rows (p_w.Shift.Ways.getD 0 d_Table) p_w.Shift.Store).length - 0) 0 () = .ret false := hI136.symm.trans (loopM.ret hlt158 hB821)
        refine br (tr (rr rfl (.cons rfl .nil) ?_))
        have hM822 : (s_l29Filled p_w) = (false) := by simp only [s_l29Filled, hb173, hb629, hb819, hL820, cL]
        rw [hM822]
        exact ⟨rfl, (Ex.trans (Ex.trans (Below.only (Ex.trans hf155 hE167) hO170 (by omega)) hE611) hE787)⟩
       ·have hb819p := dec_f hb819
        refine CW.cond_f rfl hb819 (CW.skip (bn (tn (CW.region (sd rfl (yl_inc rfl rfl rfl (by omega) (sd rfl (yl_move rfl rfl (dn ?_)))))))))
        have hB827 : B_s_l29Filled_0 p_w k69 () = .cont () := by simp only [B_s_l29Filled_0, hb173, hb629, hb819, cL]
        exact ⟨(s_l25Rows (p_w.Shift.Ways.getD 0 d_Table) p_w.Shift.Store).length - (k69 + 1), by omega, k69 + 1, rfl, hlt158, (by omega), rfl, rfl, rfl, rfl, rfl, rfl, rfl, (Box.ex (Box.ex q505 hE611) hE787), (RdS.ex good_Table (RdS.ex good_Table (RdS.only good_Table (RdS.ex good_Table hf146 hE167) hO170 (by simp only [Iv]; omega)) hE611) hE787), (RdS.ex good_Int (RdS.ex good_Int (RdS.only good_Int (RdS.ex good_Int hf147 hE167) hO170 (by simp only [Iv]; omega)) hE611) hE787), (RdS.ex good_Write (RdS.ex good_Write (RdS.only good_Write (RdS.ex good_Write hf148 hE167) hO170 (by simp only [Iv]; omega)) hE611) hE787), (Box.ex q633 hE787), (Box.ex q630 hE787), (RdS.ex good_Str q634 hE787), (RdS.ex good_Idx q635 hE787), (OwnL.ex good_Str q645 hE787), (OwnD.ex goodO_Row (OwnD.ex goodO_Row (OwnD.only goodO_Row (OwnD.ex goodO_Row hf154 hE167) hO170 (by omega)) hE611) hE787), (Ex.trans (Ex.trans (Below.only (Ex.trans hf155 hE167) hO170 (by omega)) hE611) hE787), (loopM.cont hlt158 hB827).symm.trans hI136⟩
     ·refine CW.drawsI 17 (vgetI ([.bool (sLe ((s_l25Write (p_w.Shift.Ways.getD 0 d_Table) ((s_l25Rows (p_w.Shift.Ways.getD 0 d_Table) p_w.Shift.Store).getD k69 d_Row)).Key) p_w.Up.Last), .bool (sLe ((s_l25Write (p_w.Shift.Ways.getD 0 d_Table) ((s_l25Rows (p_w.Shift.Ways.getD 0 d_Table) p_w.Shift.Store).getD k69 d_Row)).Key) p_w.Up.Last), undef, undef, undef, undef, undef, undef, undef, undef, undef, undef, undef, undef, undef, undef, .bool (false)].map DetI)) Tryz.follows rfl rfl rfl rfl rfl rfl (vgetI_stable (stD _)) ⟨?_, ?_, ?_, ?_, ?_, ?_, ?_, ?_, ?_, ?_, ?_, ?_, ?_, ?_, ?_, ?_, ?_, trivial⟩ ?_
      ·exact oI rfl fun h => yl_move rfl (h.old 8 _ rfl rfl) kI
      ·exact oI rfl fun h => yl_move rfl (h.dt 0 43 rfl rfl rfl) kI
      ·exact oS rfl rfl rfl rfl rfl hb629
      ·exact oS rfl rfl rfl rfl rfl hb629
      ·exact oS rfl rfl rfl rfl rfl hb629
      ·exact oS rfl rfl rfl rfl rfl hb629
      ·exact oS rfl rfl rfl rfl rfl hb629
      ·exact oS rfl rfl rfl rfl rfl hb629
      ·exact oS rfl rfl rfl rfl rfl hb629
      ·exact oS rfl rfl rfl rfl rfl hb629
      ·exact oS rfl rfl rfl rfl rfl hb629
      ·exact oS rfl rfl rfl rfl rfl hb629
      ·exact oS rfl rfl rfl rfl rfl hb629
      ·exact oS rfl rfl rfl rfl rfl hb629
      ·exact oS rfl rfl rfl rfl rfl hb629
      ·exact oS rfl rfl rfl rfl rfl hb629
      ·exact oI rfl fun h => yl_pick_f rfl (h.dt 1 44 rfl rfl rfl) hb629 rfl kI
      ·intro fl944 fh945 L941 w942 hp943
       have hE946 := hp943.ex
       have hE946z := Ex.size hE946
       refine dn (CW.sub (Sub.cons (d := 1) (hp943.old 1 _ rfl rfl) (Sub.cons (d := 3) (hp943.old 3 _ rfl rfl) (Sub.cons (d := 4) (hp943.old 4 _ rfl rfl) (Sub.cons (d := 5) (hp943.old 5 _ rfl rfl) (Sub.cons (d := 24) (hp943.old 24 _ rfl rfl) (Sub.cons (d := 25) (hp943.old 25 _ rfl rfl) (Sub.cons (d := 26) (hp943.old 26 _ rfl rfl) (Sub.cons (d := 34) (hp943.old 34 _ rfl rfl) (Sub.cons (d := 35) (hp943.old 35 _ rfl rfl) (Sub.cons (d := 36) (hp943.old 36 _ rfl rfl) (Sub.cons (d := 37) (hp943.old 37 _ rfl rfl) (Sub.cons (d := 38) (hp943.old 38 _ rfl rfl) (Sub.cons (d := 39) (hp943.old 39 _ rfl rfl) (Sub.cons (d := 40) (hp943.old 40 _ rfl rfl) (Sub.cons (d := 41) (hp943.old 41 _ rfl rfl) (Sub.cons (d := 45) (hp943.nt 2 45 rfl rfl rfl) (Sub.cons (d := 46) (hp943.nt 3 46 rfl rfl rfl) (Sub.cons (d := 47) (hp943.nt 4 47 rfl rfl rfl) (Sub.cons (d := 48) (hp943.nt 5 48 rfl rfl rfl) (Sub.cons (d := 49) (hp943.nt 6 49 rfl rfl rfl) (Sub.cons (d := 50) (hp943.nt 7 50 rfl rfl rfl) (Sub.cons (d := 51) (hp943.nt 8 51 rfl rfl rfl) (Sub.cons (d := 52) (hp943.nt 9 52 rfl rfl rfl) (Sub.cons (d := 53) (hp943.nt 10 53 rfl rfl rfl) (Sub.cons (d := 54) (hp943.nt 11 54 rfl rfl rfl) (Sub.cons (d := 55) (hp943.nt 12 55 rfl rfl rfl) (Sub.cons (d := 56) (hp943.nt 13 56 rfl rfl rfl) (Sub.cons (d := 57) (hp943.nt 14 57 rfl rfl rfl) (Sub.cons (d := 58) (hp943.nt 15 58 rfl rfl rfl) (Sub.cons (d := 59) (hp943.nt 16 59 rfl rfl rfl) (Sub.nil _))))))))))))))))))))))))))))))) (CW.cond_f rfl rfl (CW.skip (bn (tn ?_)))))
       refine CW.region (sd rfl (yl_inc rfl rfl rfl (by omega) (sd rfl (yl_move rfl rfl (dn ?_)))))
       have hB977 : B_s_l29Filled_0 p_w k69 () = .cont () := by simp only [B_s_l29Filled_0, hb173, hb629, cL]
       exact ⟨(s_l25Rows (p_w.Shift.Ways.getD 0 d_Table) p_w.Shift.Store).length - (k69 + 1), by omega, k69 + 1, rfl, hlt158, (by omega), rfl, rfl, rfl, rfl, rfl, rfl, rfl, (Box.ex (Box.ex q505 hE611) hE946), (RdS.ex good_Table (RdS.ex good_Table (RdS.only good_Table (RdS.ex good_Table hf146 hE167) hO170 (by simp only [Iv]; omega)) hE611) hE946), (RdS.ex good_Int (RdS.ex good_Int (RdS.only good_Int (RdS.ex good_Int hf147 hE167) hO170 (by simp only [Iv]; omega)) hE611) hE946), (RdS.ex good_Write (RdS.ex good_Write (RdS.only good_Write (RdS.ex good_Write hf148 hE167) hO170 (by simp only [Iv]; omega)) hE611) hE946), (Box.ex (Box.ex (Box.only (Box.ex hf149 hE167) hO170 (by omega)) hE611) hE946), (Box.ex (Box.ex q507 hE611) hE946), (RdS.ex good_Str (RdS.ex good_Str q509 hE611) hE946), (RdS.ex good_Idx (RdS.ex good_Idx q511 hE611) hE946), (OwnL.ex good_Str (OwnL.ex good_Str (OwnL.only good_Str (OwnL.ex good_Str hf153 hE167) hO170 (by omega)) hE611) hE946), (OwnD.ex goodO_Row (OwnD.ex goodO_Row (OwnD.only goodO_Row (OwnD.ex goodO_Row hf154 hE167) hO170 (by omega)) hE611) hE946), (Ex.trans (Ex.trans (Below.only (Ex.trans hf155 hE167) hO170 (by omega)) hE611) hE946), (loopM.cont hlt158 hB977).symm.trans hI136⟩
  ·refine CW.seq (CW.region (sd rfl (yl_lss rfl rfl rfl (dn (CW.seq (CW.cond_f rfl (lt_f hlt158) (CW.exit (tx ?_))))))))
   refine tx ?_
   have hL1014 : loopM (B_s_l29Filled_0 p_w) ((s_l25Rows (p_w.Shift.Ways.getD 0 d_Table) p_w.Shift.Store).length - 0) 0 () = .done () := hI136.symm.trans (loopM.stop hlt158)
   refine bx (tn (CW.seq (CW.region (sd rfl (yl_assign rfl rfl (dn (CW.ret (rr rfl (.cons rfl .nil) ?_))))))))
   have hM1015 : (s_l29Filled p_w) = (true) := by simp only [s_l29Filled, hL1014, cL]
   rw [hM1015]
   exact ⟨rfl, hf155⟩
theorem c_s_IsFilled {A1 : Option Addr} {c1 : Nat} {A2 : Option Addr} {c2 : Nat} {A3 : Option Addr} {c3 : Nat} {w : World} (p_w : DWork) (h1 : RdS w (Iv 0 w.heap.size) R_Table 3 A1 p_w.Shift.Ways.length c1 p_w.Shift.Ways) (h2 : RdS w (Iv 0 w.heap.size) (RF e_Int) 1 A2 p_w.Shift.At.length c2 p_w.Shift.At) (h3 : RdS w (Iv 0 w.heap.size) (RF e_Write) 3 A3 p_w.Shift.Store.length c3 p_w.Shift.Store) (o4 : ok_Work p_w) : Cal Tryz.prog 19 #[.agg #[.string (bs (p_w.Shift.Name)), .slice A1 p_w.Shift.Ways.length c1, .slice A2 p_w.Shift.At.length c2, .slice A3 p_w.Shift.Store.length c3, .string (bs (p_w.Up.Last)), .bool (p_w.Up.Over), .string (bs (p_w.Down.Last)), .bool (p_w.Down.Over)]] w fun v w' => v = .tuple #[.bool ((s_IsFilled p_w).1), .bool ((s_IsFilled p_w).2)] ∧ Ex w w' := by
 have hol5 : p_w.Shift.Name.length ≤ 1073741824 := o4.1.1
 have hol6 := o4.1.2.1.1
 have hol7 := o4.1.2.2.1.1
 have hol8 := o4.1.2.2.2.1
 have hol9 : p_w.Up.Last.length ≤ 1073741824 := o4.2.1
 have hol10 : p_w.Down.Last.length ≤ 1073741824 := o4.2.2
 refine Cal.of func19 rfl ntmps19 rfl (CW.seq (CW.region (sd rfl (yl_box rfl rfl rfl ?_))))
 intro b11 w12 hs13 hz14 hB15 hE16
 refine sd rfl (yl_assign rfl rfl (sd rfl (yl_assign rfl rfl (dn (CW.seq (CW.seq (CW.region (sd rfl (yl_loadN ty61 rfl rfl (hB15.cells (n := 8) rfl) rfl ?_)))))))))
 have q17 := RdS.ex good_Table h1 hE16
 have q18 := RdS.ex good_Int h2 hE16
 have q19 := RdS.ex good_Write h3 hE16
 refine sd rfl (yl_call en45 rfl (oc rfl oz) (Cal.mono (c_s_GoodWork p_w (RdS.up q17 good_Table) (RdS.up q18 good_Int) (RdS.up q19 good_Write) o4) ?_))
 rintro v21 w20 ⟨rfl, hE22⟩
 have hE22z := Ex.size hE22
 refine sd rfl (yl_not rfl rfl (dn (bcase (s_GoodWork p_w) (fun hb23 => ?_) (fun hb23 => ?_))))
 ·have hb23p := f_s_GoodWork hb23
  refine CW.cond_f rfl (not_t hb23) (CW.skip (tn (CW.seq (CW.region (sd rfl (yl_loadN ty61 rfl rfl ((Box.ex hB15 hE22).cells (n := 8) rfl) rfl (sd rfl (yl_call en46 rfl (oc rfl oz) (Cal.mono (c_s_l29Filled p_w (RdS.up (RdS.ex good_Table q17 hE22) good_Table) (RdS.up (RdS.ex good_Int q18 hE22) good_Int) (RdS.up (RdS.ex good_Write q19 hE22) good_Write) o4 (by first | omega | assumption | (simp only [wI] at *; omega))) ?_)))))))))
  rintro v29 w28 ⟨rfl, hE30⟩
  have hE30z := Ex.size hE30
  refine sd rfl (yl_assign rfl rfl (sd rfl (yl_assign rfl rfl (dn (CW.ret (rr rfl (.cons rfl (.cons rfl .nil)) ?_))))))
  have hM31 : (s_IsFilled p_w) = (((s_l29Filled p_w), true)) := by simp only [s_IsFilled, hb23, cL]
  rw [hM31]
  exact ⟨rfl, (Ex.trans (Ex.trans (Ex.trans (Ex.refl w) hE16) hE22) hE30)⟩
 ·refine CW.cond_t rfl (not_f hb23) (CW.seq (CW.region (sd rfl (yl_assign rfl rfl (sd rfl (yl_assign rfl rfl (dn (CW.ret (tr ?_)))))))))
  refine rr rfl (.cons rfl (.cons rfl .nil)) ?_
  have hM35 : (s_IsFilled p_w) = ((false, false)) := by simp only [s_IsFilled, hb23, cL]
  rw [hM35]
  exact ⟨rfl, (Ex.trans (Ex.trans (Ex.refl w) hE16) hE22)⟩
theorem c_l_toWrite {w : World} (p_a : DWrite) (o1 : ok_Write p_a) : Cal Tryz.prog 31 #[.agg #[.string (bs (p_a.Key)), .string (bs (p_a.Val)), .bool (p_a.Gone)]] w fun v w' => v = .agg #[.string (bs (p_a.Key)), .string (bs (p_a.Val)), .bool (p_a.Gone)] ∧ Ex w w' := by
 have hol2 : p_a.Key.length ≤ 1073741824 := o1.1
 have hol3 : p_a.Val.length ≤ 1073741824 := o1.2
 refine Cal.of func31 rfl ntmps31 rfl (CW.seq (CW.region (sd rfl (yl_box rfl rfl rfl ?_))))
 intro b4 w5 hs6 hz7 hB8 hE9
 refine sd rfl (yl_alloc ty75 (cs := [.string (bs (([] : Str))), .string (bs (([] : Str))), .bool (false)]) rfl rfl ?_)
 intro b10 w11 hs12 hz13 hB14 hE15
 refine dn (CW.seq (CW.region (sd rfl (yl_alloc ty75 (cs := [.string (bs (([] : Str))), .string (bs (([] : Str))), .bool (false)]) rfl rfl ?_))))
 intro b16 w17 hs18 hz19 hB20 hE21
 refine dn (CW.seq (CW.region (sd rfl (yl_fieldAddr fd69_0 rfl rfl ?_))))
 have q23 := Box.ex (Box.ex hB8 hE15) hE21
 refine sd rfl (yl_load1 ty9 rfl rfl ((q23.cell 0).trans rfl) (sd rfl (yl_fieldAddr fd75_0 rfl rfl (SeqR.u rfl rfl (yl_store (vs := [.string (bs (p_a.Key))]) ty9 rfl rfl rfl rfl rfl rfl hB20 (Nat.le_of_ble_eq_true rfl) ?_)))))
 intro w24 hB25 hO26
 have hB25 : Box w24 b16 75 [.string (bs (p_a.Key)), .string (bs (([] : Str))), .bool (false)] := hB25
 have hO26z := hO26.size
 refine dn (CW.seq (CW.region (sd rfl (yl_fieldAddr fd69_1 rfl rfl ?_))))
 have q27 := Box.only q23 hO26 (by omega)
 refine sd rfl (yl_load1 ty9 rfl rfl ((q27.cell 1).trans rfl) (sd rfl (yl_fieldAddr fd75_1 rfl rfl (SeqR.u rfl rfl (yl_store (vs := [.string (bs (p_a.Val))]) ty9 rfl rfl rfl rfl rfl rfl hB25 (Nat.le_of_ble_eq_true rfl) ?_)))))
 intro w28 hB29 hO30
 have hB29 : Box w28 b16 75 [.string (bs (p_a.Key)), .string (bs (p_a.Val)), .bool (false)] := hB29
 have hO30z := hO30.size
 refine dn (CW.seq (CW.region (sd rfl (yl_fieldAddr fd69_2 rfl rfl (sd rfl (yl_load1 ty4 rfl rfl (((Box.only q27 hO30 (by omega)).cell 2).trans rfl) (sd rfl (yl_fieldAddr fd75_2 rfl rfl (SeqR.u rfl rfl (yl_store (vs := [.bool (p_a.Gone)]) ty4 rfl rfl rfl rfl rfl rfl hB29 (Nat.le_of_ble_eq_true rfl) ?_))))))))))
 intro w32 hB33 hO34
 have hB33 : Box w32 b16 75 [.string (bs (p_a.Key)), .string (bs (p_a.Val)), .bool (p_a.Gone)] := hB33
 have hO34z := hO34.size
 refine dn (CW.seq (CW.region (sd rfl (yl_loadN ty75 rfl rfl (hB33.cells (n := 3) rfl) rfl (SeqR.u rfl rfl (yl_store (vs := [.string (bs (p_a.Key)), .string (bs (p_a.Val)), .bool (p_a.Gone)]) ty75 rfl rfl rfl rfl rfl rfl (Box.only (Box.only (Box.only (Box.ex hB14 hE21) hO26 (by omega)) hO30 (by omega)) hO34 (by omega)) (Nat.le_of_ble_eq_true rfl) ?_))))))
 intro w39 hB40 hO41
 have hB40 : Box w39 b10 75 [.string (bs (p_a.Key)), .string (bs (p_a.Val)), .bool (p_a.Gone)] := hB40
 have hO41z := hO41.size
 refine dn (CW.ret (rr rfl (.cons ⟨_, rfl, run_loadN ty75 (cs := [.string (bs (p_a.Key)), .string (bs (p_a.Val)), .bool (p_a.Gone)]) rfl (hB40.cells (n := 3) rfl)⟩ .nil) ?_))
 have hM42 : p_a = (p_a) := (to_Write _).symm.trans <| by simp only [l_toWrite, cL]
 rw [hM42]
 exact ⟨rfl, (Below.only (Below.only (Below.only (Below.only (Ex.trans (Ex.trans (Ex.trans (Ex.refl w) hE9) hE15) hE21) hO26 (by omega)) hO30 (by omega)) hO34 (by omega)) hO41 (by omega))⟩
theorem c_l_toWriteS {A1 : Option Addr} {c1 : Nat} {w : World} (p_a : List DWrite) (h1 : RdS w (Iv 0 w.heap.size) (RF e_Write) 3 A1 p_a.length c1 p_a) (o2 : (okL ok_Write) p_a) : Cal Tryz.prog 9 #[.slice A1 p_a.length c1] w fun v w' => ∃ A_1 c_1 lo_1 hi_1, v = .slice A_1 p_a.length c_1 ∧ OwnL w' lo_1 hi_1 75 3 (RF e_Write) A_1 p_a.length c_1 p_a ∧ (w.heap.size ≤ lo_1 ∧ lo_1 ≤ hi_1 ∧ hi_1 ≤ w'.heap.size) ∧ Ex w w' := by
 have hol3 := o2.1
 refine Cal.of func9 rfl ntmps9 rfl (CW.seq (CW.region (sd rfl (yl_assign rfl rfl (dn (CW.seq (CW.region (sd rfl (yl_move rfl rfl ?_)))))))))
 refine sd rfl (yl_len un26 rfl rfl (sd rfl (yl_make (zs := [.string (bs (([] : Str))), .string (bs (([] : Str))), .bool (false)]) (n := p_a.length) un36 ty75 rfl rfl (Nat.le_of_ble_eq_true rfl) rfl rfl rfl (by first | omega | assumption | (simp only [wI] at *; omega)) (by first | omega | assumption | (simp only [wI] at *; omega)) ?_)))
 intro b4 w5 hs6 hz7 hB8 hE9
 have hO10 : OwnL w5 b4 (b4 + 1) 75 3 (RF e_Write) (some ⟨b4, 0, none⟩) p_a.length p_a.length (List.replicate p_a.length d_Write) := by have := OwnL.of_boxF (lo := b4) (hi := b4 + 1) (xs := (List.replicate p_a.length d_Write)) hB8 (Nat.le_refl _) (Nat.lt_succ_self _) (EncL.zerosF (enc := e_Write) (d := d_Write) rfl p_a.length) (by rw [List.length_replicate]; omega); rwa [List.length_replicate] at this
 refine sd rfl (yl_assign rfl rfl (dn (CW.seq (CW.seq (CW.region (sd rfl (yl_assign rfl rfl (dn ?_))))))))
 refine CW.block (CW.loop (fun m23 L24 w25 => ∃ (k11 : Nat) (x22 : List DWrite), m23 = p_a.length - k11 ∧ k11 ≤ p_a.length ∧ w5.heap.size ≤ w25.heap.size ∧ lkp L24 0 = some (.slice A1 p_a.length c1) ∧ lkp L24 3 = some (.slice (some ⟨b4, 0, none⟩) p_a.length p_a.length) ∧ lkp L24 4 = some (.int .i64 ((k11 : Int))) ∧ RdS w25 (Iv 0 w.heap.size) (RF e_Write) 3 A1 p_a.length c1 p_a ∧ OwnL w25 b4 (b4 + 1) 75 3 (RF e_Write) (some ⟨b4, 0, none⟩) p_a.length p_a.length x22 ∧ Ex w w25 ∧ loopM (B_l_toWriteS_0 p_a) (p_a.length - k11) k11 (x22) = loopM (B_l_toWriteS_0 p_a) (p_a.length - 0) 0 ((List.replicate p_a.length d_Write))) (p_a.length - 0) ?_ ?_)
 ·exact ⟨0, (List.replicate p_a.length d_Write), rfl, (by omega), Nat.le_refl _, rfl, rfl, rfl, (RdS.ex good_Write h1 hE9), hO10, (Ex.trans (Ex.refl w) hE9), rfl⟩
 ·rintro m28 L29 w30 ⟨k11, x22, rfl, hk31, hsz33, hl34, hl35, hl36, hf37, hf38, hf39, hI32⟩
  refine CW.sub (Sub.cons hl34 (Sub.cons hl35 (Sub.cons hl36 (Sub.nil _)))) ?_
  have hf39z := Ex.size hf39
  have hbg40 := RdS.big hf37
  rcases Nat.lt_or_ge k11 p_a.length with hlt41 | hlt41
  ·refine CW.seq (CW.seq (CW.region (sd rfl (yl_move rfl rfl (sd rfl (yl_move rfl rfl (sd rfl (yl_len un26 rfl rfl (sd rfl (yl_lss rfl rfl rfl (dn ?_)))))))))))
   refine CW.cond_t rfl (lt_t hlt41) (CW.skip (tn (CW.seq (CW.block (CW.region (sd rfl (yl_move rfl rfl (sd rfl (yl_move rfl rfl (sd rfl (yl_move rfl rfl ?_)))))))))))
   refine sd rfl (yl_move rfl rfl ?_)
   obtain ⟨eb42, eo42, _, eA42, _, ebl42, _, eR42, eC42⟩ := RdS.aD hf37 d_Write (i := k11)
   obtain rfl := eR42
   have eC42 : Cells w30 eb42 (eo42 + k11 * 3) [.string (bs ((p_a.getD k11 d_Write).Key)), .string (bs ((p_a.getD k11 d_Write).Val)), .bool ((p_a.getD k11 d_Write).Gone)] := eC42
   refine sd rfl (yl_ixN un26 ty69 rfl rfl rfl eA42 (sd rfl (yl_loadN ty69 rfl rfl eC42 rfl (sd rfl (yl_call en31 rfl (oc rfl oz) (Cal.mono (c_l_toWrite (p_a.getD k11 d_Write) (okL.getD o2 ok_d_Write _)) ?_))))))
   rintro v44 w43 ⟨rfl, hE45⟩
   have hE45z := Ex.size hE45
   have q47 := OwnL.ex good_Write hf38 hE45
   obtain ⟨eb48, eo48, _, eA48, _, ebl48, _, eR48, eC48⟩ := RdS.aD (OwnL.rd good_Write q47) d_Write (i := k11)
   obtain rfl := eR48
   have eC48 : Cells w43 eb48 (eo48 + k11 * 3) [.string (bs ((x22.getD k11 d_Write).Key)), .string (bs ((x22.getD k11 d_Write).Val)), .bool ((x22.getD k11 d_Write).Gone)] := eC48
   refine sd rfl (yl_ixN un36 ty75 rfl rfl rfl eA48 ?_)
   have hrg49 := OwnL.rng q47 (i := k11) (by first | omega | assumption | (simp only [wI] at *; omega)) eb48 (by rw [eA48]; rfl)
   refine SeqR.u rfl rfl (yl_storeF (off := eo48) (i := k11) (d := 0) (dx := d_Write) (x' := (p_a.getD k11 d_Write)) (vs := [.string (bs ((p_a.getD k11 d_Write).Key)), .string (bs ((p_a.getD k11 d_Write).Val)), .bool ((p_a.getD k11 d_Write).Gone)]) ty75 rfl q47 eA48 rfl rfl rfl rfl rfl (by first | omega | assumption | (simp only [wI] at *; omega)) (Nat.le_of_ble_eq_true rfl) rfl rfl ?_)
   intro w50 hB51 hO52
   have hO52z := hO52.size
   refine SeqR.done (bn (tn (CW.region (sd rfl (yl_move rfl rfl (sd rfl (yl_inc rfl rfl rfl (by omega) (sd rfl (yl_assign rfl rfl (dn ?_))))))))))
   have hB53 : B_l_toWriteS_0 p_a k11 (x22) = .cont ((x22.set k11 (p_a.getD k11 d_Write))) := by simp only [B_l_toWriteS_0, cL]
   exact ⟨p_a.length - (k11 + 1), by omega, k11 + 1, (x22.set k11 (p_a.getD k11 d_Write)), rfl, hlt41, (by omega), rfl, rfl, rfl, (RdS.only good_Write (RdS.ex good_Write hf37 hE45) hO52 (by simp only [Iv]; omega)), hB51, (Below.only (Ex.trans hf39 hE45) hO52 (by omega)), (loopM.cont hlt41 hB53).symm.trans hI32⟩
  ·refine CW.seq (CW.seq (CW.region (sd rfl (yl_move rfl rfl (sd rfl (yl_move rfl rfl (sd rfl (yl_len un26 rfl rfl (sd rfl (yl_lss rfl rfl rfl (dn ?_)))))))))))
   refine CW.cond_f rfl (lt_f hlt41) (CW.exit (tx (tx ?_)))
   have hL58 : loopM (B_l_toWriteS_0 p_a) (p_a.length - 0) 0 ((List.replicate p_a.length d_Write)) = .done (x22) := hI32.symm.trans (loopM.stop hlt41)
   refine bx (tn (CW.seq (CW.region (sd rfl (yl_move rfl rfl (sd rfl (yl_assign rfl rfl (dn (CW.ret ?_)))))))))
   refine rr rfl (.cons rfl .nil) ?_
   have hM59 : p_a = (x22) := (to_WriteS _).symm.trans <| by simp only [l_toWriteS, hL58, cL]
   subst hM59
   exact ⟨(some ⟨b4, 0, none⟩), p_a.length, b4, (b4 + 1), rfl, hf38, (by omega), hf39⟩
theorem c_l_toStringS {A1 : Option Addr} {c1 : Nat} {w : World} (p_a : List Str) (h1 : RdS w (Iv 0 w.heap.size) (RF e_Str) 1 A1 p_a.length c1 p_a) (o2 : (okL okS) p_a) : Cal Tryz.prog 29 #[.slice A1 p_a.length c1] w fun v w' => ∃ A_1 c_1 lo_1 hi_1, v = .slice A_1 p_a.length c_1 ∧ OwnL w' lo_1 hi_1 9 1 (RF e_Str) A_1 p_a.length c_1 p_a ∧ (w.heap.size ≤ lo_1 ∧ lo_1 ≤ hi_1 ∧ hi_1 ≤ w'.heap.size) ∧ Ex w w' := by
 have hol3 := o2.1
 refine Cal.of func29 rfl ntmps29 rfl (CW.seq (CW.region (sd rfl (yl_assign rfl rfl (dn (CW.seq (CW.region (sd rfl (yl_move rfl rfl ?_)))))))))
 refine sd rfl (yl_len un22 rfl rfl (sd rfl (yl_make (zs := [.string (bs (([] : Str)))]) (n := p_a.length) un22 ty9 rfl rfl (Nat.le_of_ble_eq_true rfl) rfl rfl rfl (by first | omega | assumption | (simp only [wI] at *; omega)) (by first | omega | assumption | (simp only [wI] at *; omega)) ?_)))
 intro b4 w5 hs6 hz7 hB8 hE9
 have hO10 : OwnL w5 b4 (b4 + 1) 9 1 (RF e_Str) (some ⟨b4, 0, none⟩) p_a.length p_a.length (List.replicate p_a.length d_Str) := by have := OwnL.of_boxF (lo := b4) (hi := b4 + 1) (xs := (List.replicate p_a.length d_Str)) hB8 (Nat.le_refl _) (Nat.lt_succ_self _) (EncL.zerosF (enc := e_Str) (d := d_Str) rfl p_a.length) (by rw [List.length_replicate]; omega); rwa [List.length_replicate] at this
 refine sd rfl (yl_assign rfl rfl (dn (CW.seq (CW.seq (CW.region (sd rfl (yl_assign rfl rfl (dn ?_))))))))
 refine CW.block (CW.loop (fun m20 L21 w22 => ∃ (k11 : Nat) (x19 : List Str), m20 = p_a.length - k11 ∧ k11 ≤ p_a.length ∧ w5.heap.size ≤ w22.heap.size ∧ lkp L21 0 = some (.slice A1 p_a.length c1) ∧ lkp L21 3 = some (.slice (some ⟨b4, 0, none⟩) p_a.length p_a.length) ∧ lkp L21 4 = some (.int .i64 ((k11 : Int))) ∧ RdS w22 (Iv 0 w.heap.size) (RF e_Str) 1 A1 p_a.length c1 p_a ∧ OwnL w22 b4 (b4 + 1) 9 1 (RF e_Str) (some ⟨b4, 0, none⟩) p_a.length p_a.length x19 ∧ Ex w w22 ∧ loopM (B_l_toStringS_0 p_a) (p_a.length - k11) k11 (x19) = loopM (B_l_toStringS_0 p_a) (p_a.length - 0) 0 ((List.replicate p_a.length d_Str))) (p_a.length - 0) ?_ ?_)
 ·exact ⟨0, (List.replicate p_a.length d_Str), rfl, (by omega), Nat.le_refl _, rfl, rfl, rfl, (RdS.ex good_Str h1 hE9), hO10, (Ex.trans (Ex.refl w) hE9), rfl⟩
 ·rintro m25 L26 w27 ⟨k11, x19, rfl, hk28, hsz30, hl31, hl32, hl33, hf34, hf35, hf36, hI29⟩
  refine CW.sub (Sub.cons hl31 (Sub.cons hl32 (Sub.cons hl33 (Sub.nil _)))) ?_
  have hf36z := Ex.size hf36
  have hbg37 := RdS.big hf34
  rcases Nat.lt_or_ge k11 p_a.length with hlt38 | hlt38
  ·refine CW.seq (CW.seq (CW.region (sd rfl (yl_move rfl rfl (sd rfl (yl_move rfl rfl (sd rfl (yl_len un22 rfl rfl (sd rfl (yl_lss rfl rfl rfl (dn ?_)))))))))))
   refine CW.cond_t rfl (lt_t hlt38) (CW.skip (tn (CW.seq (CW.block (CW.region (sd rfl (yl_move rfl rfl (sd rfl (yl_move rfl rfl (sd rfl (yl_move rfl rfl ?_)))))))))))
   refine sd rfl (yl_move rfl rfl ?_)
   obtain ⟨eb39, eo39, _, eA39, _, ebl39, _, eR39, eC39⟩ := RdS.aD hf34 d_Str (i := k11)
   obtain rfl := eR39
   have eC39 : Cells w27 eb39 (eo39 + k11 * 1) [.string (bs ((p_a.getD k11 d_Str)))] := eC39
   refine sd rfl (yl_ixN un22 ty9 rfl rfl rfl eA39 (sd rfl (yl_load1 ty9 rfl rfl (eC39 0 _ rfl) ?_)))
   obtain ⟨eb41, eo41, _, eA41, _, ebl41, _, eR41, eC41⟩ := RdS.aD (OwnL.rd good_Str hf35) d_Str (i := k11)
   obtain rfl := eR41
   have eC41 : Cells w27 eb41 (eo41 + k11 * 1) [.string (bs ((x19.getD k11 d_Str)))] := eC41
   refine sd rfl (yl_ixN un22 ty9 rfl rfl rfl eA41 ?_)
   have hrg42 := OwnL.rng hf35 (i := k11) (by first | omega | assumption | (simp only [wI] at *; omega)) eb41 (by rw [eA41]; rfl)
   refine SeqR.u rfl rfl (yl_storeF (off := eo41) (i := k11) (d := 0) (dx := d_Str) (x' := (p_a.getD k11 d_Str)) (vs := [.string (bs ((p_a.getD k11 d_Str)))]) ty9 rfl hf35 eA41 rfl rfl rfl rfl rfl (by first | omega | assumption | (simp only [wI] at *; omega)) (Nat.le_of_ble_eq_true rfl) rfl rfl ?_)
   intro w43 hB44 hO45
   have hO45z := hO45.size
   refine SeqR.done (bn (tn (CW.region (sd rfl (yl_move rfl rfl (sd rfl (yl_inc rfl rfl rfl (by omega) (sd rfl (yl_assign rfl rfl (dn ?_))))))))))
   have hB46 : B_l_toStringS_0 p_a k11 (x19) = .cont ((x19.set k11 (p_a.getD k11 d_Str))) := by simp only [B_l_toStringS_0, cL]
   exact ⟨p_a.length - (k11 + 1), by omega, k11 + 1, (x19.set k11 (p_a.getD k11 d_Str)), rfl, hlt38, (by omega), rfl, rfl, rfl, (RdS.only good_Str hf34 hO45 (by simp only [Iv]; omega)), hB44, (Below.only hf36 hO45 (by omega)), (loopM.cont hlt38 hB46).symm.trans hI29⟩
  ·refine CW.seq (CW.seq (CW.region (sd rfl (yl_move rfl rfl (sd rfl (yl_move rfl rfl (sd rfl (yl_len un22 rfl rfl (sd rfl (yl_lss rfl rfl rfl (dn ?_)))))))))))
   refine CW.cond_f rfl (lt_f hlt38) (CW.exit (tx (tx ?_)))
   have hL49 : loopM (B_l_toStringS_0 p_a) (p_a.length - 0) 0 ((List.replicate p_a.length d_Str)) = .done (x19) := hI29.symm.trans (loopM.stop hlt38)
   refine bx (tn (CW.seq (CW.region (sd rfl (yl_move rfl rfl (sd rfl (yl_assign rfl rfl (dn (CW.ret ?_)))))))))
   refine rr rfl (.cons rfl .nil) ?_
   have hM50 : p_a = (x19) := (to_StringS _).symm.trans <| by simp only [l_toStringS, hL49, cL]
   subst hM50
   exact ⟨(some ⟨b4, 0, none⟩), p_a.length, b4, (b4 + 1), rfl, hf35, (by omega), hf36⟩
theorem c_l_toIdx {w : World} (p_a : DIdx) (o1 : ok_Idx p_a) : Cal Tryz.prog 64 #[.agg #[.string (bs (p_a.Name)), .int .i64 (p_a.Col), .int .i64 (p_a.Stage)]] w fun v w' => v = .agg #[.string (bs (p_a.Name)), .int .i64 (p_a.Col), .int .i64 (p_a.Stage)] ∧ Ex w w' := by
 have hol2 : p_a.Name.length ≤ 1073741824 := o1
 refine Cal.of func64 rfl ntmps64 rfl (CW.seq (CW.region (sd rfl (yl_box rfl rfl rfl ?_))))
 intro b3 w4 hs5 hz6 hB7 hE8
 refine sd rfl (yl_alloc ty104 (cs := [.string (bs (([] : Str))), .int .i64 (0), .int .i64 (0)]) rfl rfl ?_)
 intro b9 w10 hs11 hz12 hB13 hE14
 refine dn (CW.seq (CW.region (sd rfl (yl_alloc ty104 (cs := [.string (bs (([] : Str))), .int .i64 (0), .int .i64 (0)]) rfl rfl ?_))))
 intro b15 w16 hs17 hz18 hB19 hE20
 refine dn (CW.seq (CW.region (sd rfl (yl_fieldAddr fd101_0 rfl rfl ?_))))
 have q22 := Box.ex (Box.ex hB7 hE14) hE20
 refine sd rfl (yl_load1 ty9 rfl rfl ((q22.cell 0).trans rfl) (sd rfl (yl_fieldAddr fd104_0 rfl rfl (SeqR.u rfl rfl (yl_store (vs := [.string (bs (p_a.Name))]) ty9 rfl rfl rfl rfl rfl rfl hB19 (Nat.le_of_ble_eq_true rfl) ?_)))))
 intro w23 hB24 hO25
 have hB24 : Box w23 b15 104 [.string (bs (p_a.Name)), .int .i64 (0), .int .i64 (0)] := hB24
 have hO25z := hO25.size
 refine dn (CW.seq (CW.region (sd rfl (yl_fieldAddr fd101_1 rfl rfl ?_))))
 have q26 := Box.only q22 hO25 (by omega)
 refine sd rfl (yl_load1 ty3 rfl rfl ((q26.cell 1).trans rfl) (sd rfl (yl_fieldAddr fd104_1 rfl rfl (SeqR.u rfl rfl (yl_store (vs := [.int .i64 (p_a.Col)]) ty3 rfl rfl rfl rfl rfl rfl hB24 (Nat.le_of_ble_eq_true rfl) ?_)))))
 intro w27 hB28 hO29
 have hB28 : Box w27 b15 104 [.string (bs (p_a.Name)), .int .i64 (p_a.Col), .int .i64 (0)] := hB28
 have hO29z := hO29.size
 refine dn (CW.seq (CW.region (sd rfl (yl_fieldAddr fd101_2 rfl rfl (sd rfl (yl_load1 ty3 rfl rfl (((Box.only q26 hO29 (by omega)).cell 2).trans rfl) (sd rfl (yl_fieldAddr fd104_2 rfl rfl (SeqR.u rfl rfl (yl_store (vs := [.int .i64 (p_a.Stage)]) ty3 rfl rfl rfl rfl rfl rfl hB28 (Nat.le_of_ble_eq_true rfl) ?_))))))))))
 intro w31 hB32 hO33
 have hB32 : Box w31 b15 104 [.string (bs (p_a.Name)), .int .i64 (p_a.Col), .int .i64 (p_a.Stage)] := hB32
 have hO33z := hO33.size
 refine dn (CW.seq (CW.region (sd rfl (yl_loadN ty104 rfl rfl (hB32.cells (n := 3) rfl) rfl (SeqR.u rfl rfl (yl_store (vs := [.string (bs (p_a.Name)), .int .i64 (p_a.Col), .int .i64 (p_a.Stage)]) ty104 rfl rfl rfl rfl rfl rfl (Box.only (Box.only (Box.only (Box.ex hB13 hE20) hO25 (by omega)) hO29 (by omega)) hO33 (by omega)) (Nat.le_of_ble_eq_true rfl) ?_))))))
 intro w38 hB39 hO40
 have hB39 : Box w38 b9 104 [.string (bs (p_a.Name)), .int .i64 (p_a.Col), .int .i64 (p_a.Stage)] := hB39
 have hO40z := hO40.size
 refine dn (CW.ret (rr rfl (.cons ⟨_, rfl, run_loadN ty104 (cs := [.string (bs (p_a.Name)), .int .i64 (p_a.Col), .int .i64 (p_a.Stage)]) rfl (hB39.cells (n := 3) rfl)⟩ .nil) ?_))
 have hM41 : p_a = (p_a) := (to_Idx _).symm.trans <| by simp only [l_toIdx, cL]
 rw [hM41]
 exact ⟨rfl, (Below.only (Below.only (Below.only (Below.only (Ex.trans (Ex.trans (Ex.trans (Ex.refl w) hE8) hE14) hE20) hO25 (by omega)) hO29 (by omega)) hO33 (by omega)) hO40 (by omega))⟩
theorem c_l_toIdxS {A1 : Option Addr} {c1 : Nat} {w : World} (p_a : List DIdx) (h1 : RdS w (Iv 0 w.heap.size) (RF e_Idx) 3 A1 p_a.length c1 p_a) (o2 : (okL ok_Idx) p_a) : Cal Tryz.prog 30 #[.slice A1 p_a.length c1] w fun v w' => ∃ A_1 c_1 lo_1 hi_1, v = .slice A_1 p_a.length c_1 ∧ OwnL w' lo_1 hi_1 104 3 (RF e_Idx) A_1 p_a.length c_1 p_a ∧ (w.heap.size ≤ lo_1 ∧ lo_1 ≤ hi_1 ∧ hi_1 ≤ w'.heap.size) ∧ Ex w w' := by
 have hol3 := o2.1
 refine Cal.of func30 rfl ntmps30 rfl (CW.seq (CW.region (sd rfl (yl_assign rfl rfl (dn (CW.seq (CW.region (sd rfl (yl_move rfl rfl ?_)))))))))
 refine sd rfl (yl_len un23 rfl rfl (sd rfl (yl_make (zs := [.string (bs (([] : Str))), .int .i64 (0), .int .i64 (0)]) (n := p_a.length) un32 ty104 rfl rfl (Nat.le_of_ble_eq_true rfl) rfl rfl rfl (by first | omega | assumption | (simp only [wI] at *; omega)) (by first | omega | assumption | (simp only [wI] at *; omega)) ?_)))
 intro b4 w5 hs6 hz7 hB8 hE9
 have hO10 : OwnL w5 b4 (b4 + 1) 104 3 (RF e_Idx) (some ⟨b4, 0, none⟩) p_a.length p_a.length (List.replicate p_a.length d_Idx) := by have := OwnL.of_boxF (lo := b4) (hi := b4 + 1) (xs := (List.replicate p_a.length d_Idx)) hB8 (Nat.le_refl _) (Nat.lt_succ_self _) (EncL.zerosF (enc := e_Idx) (d := d_Idx) rfl p_a.length) (by rw [List.length_replicate]; omega); rwa [List.length_replicate] at this
 refine sd rfl (yl_assign rfl rfl (dn (CW.seq (CW.seq (CW.region (sd rfl (yl_assign rfl rfl (dn ?_))))))))
 refine CW.block (CW.loop (fun m23 L24 w25 => ∃ (k11 : Nat) (x22 : List DIdx), m23 = p_a.length - k11 ∧ k11 ≤ p_a.length ∧ w5.heap.size ≤ w25.heap.size ∧ lkp L24 0 = some (.slice A1 p_a.length c1) ∧ lkp L24 3 = some (.slice (some ⟨b4, 0, none⟩) p_a.length p_a.length) ∧ lkp L24 4 = some (.int .i64 ((k11 : Int))) ∧ RdS w25 (Iv 0 w.heap.size) (RF e_Idx) 3 A1 p_a.length c1 p_a ∧ OwnL w25 b4 (b4 + 1) 104 3 (RF e_Idx) (some ⟨b4, 0, none⟩) p_a.length p_a.length x22 ∧ Ex w w25 ∧ loopM (B_l_toIdxS_0 p_a) (p_a.length - k11) k11 (x22) = loopM (B_l_toIdxS_0 p_a) (p_a.length - 0) 0 ((List.replicate p_a.length d_Idx))) (p_a.length - 0) ?_ ?_)
 ·exact ⟨0, (List.replicate p_a.length d_Idx), rfl, (by omega), Nat.le_refl _, rfl, rfl, rfl, (RdS.ex good_Idx h1 hE9), hO10, (Ex.trans (Ex.refl w) hE9), rfl⟩
 ·rintro m28 L29 w30 ⟨k11, x22, rfl, hk31, hsz33, hl34, hl35, hl36, hf37, hf38, hf39, hI32⟩
  refine CW.sub (Sub.cons hl34 (Sub.cons hl35 (Sub.cons hl36 (Sub.nil _)))) ?_
  have hf39z := Ex.size hf39
  have hbg40 := RdS.big hf37
  rcases Nat.lt_or_ge k11 p_a.length with hlt41 | hlt41
  ·refine CW.seq (CW.seq (CW.region (sd rfl (yl_move rfl rfl (sd rfl (yl_move rfl rfl (sd rfl (yl_len un23 rfl rfl (sd rfl (yl_lss rfl rfl rfl (dn ?_)))))))))))
   refine CW.cond_t rfl (lt_t hlt41) (CW.skip (tn (CW.seq (CW.block (CW.region (sd rfl (yl_move rfl rfl (sd rfl (yl_move rfl rfl (sd rfl (yl_move rfl rfl ?_)))))))))))
   refine sd rfl (yl_move rfl rfl ?_)
   obtain ⟨eb42, eo42, _, eA42, _, ebl42, _, eR42, eC42⟩ := RdS.aD hf37 d_Idx (i := k11)
   obtain rfl := eR42
   have eC42 : Cells w30 eb42 (eo42 + k11 * 3) [.string (bs ((p_a.getD k11 d_Idx).Name)), .int .i64 ((p_a.getD k11 d_Idx).Col), .int .i64 ((p_a.getD k11 d_Idx).Stage)] := eC42
   refine sd rfl (yl_ixN un23 ty101 rfl rfl rfl eA42 (sd rfl (yl_loadN ty101 rfl rfl eC42 rfl (sd rfl (yl_call en64 rfl (oc rfl oz) (Cal.mono (c_l_toIdx (p_a.getD k11 d_Idx) (okL.getD o2 ok_d_Idx _)) ?_))))))
   rintro v44 w43 ⟨rfl, hE45⟩
   have hE45z := Ex.size hE45
   have q47 := OwnL.ex good_Idx hf38 hE45
   obtain ⟨eb48, eo48, _, eA48, _, ebl48, _, eR48, eC48⟩ := RdS.aD (OwnL.rd good_Idx q47) d_Idx (i := k11)
   obtain rfl := eR48
   have eC48 : Cells w43 eb48 (eo48 + k11 * 3) [.string (bs ((x22.getD k11 d_Idx).Name)), .int .i64 ((x22.getD k11 d_Idx).Col), .int .i64 ((x22.getD k11 d_Idx).Stage)] := eC48
   refine sd rfl (yl_ixN un32 ty104 rfl rfl rfl eA48 ?_)
   have hrg49 := OwnL.rng q47 (i := k11) (by first | omega | assumption | (simp only [wI] at *; omega)) eb48 (by rw [eA48]; rfl)
   refine SeqR.u rfl rfl (yl_storeF (off := eo48) (i := k11) (d := 0) (dx := d_Idx) (x' := (p_a.getD k11 d_Idx)) (vs := [.string (bs ((p_a.getD k11 d_Idx).Name)), .int .i64 ((p_a.getD k11 d_Idx).Col), .int .i64 ((p_a.getD k11 d_Idx).Stage)]) ty104 rfl q47 eA48 rfl rfl rfl rfl rfl (by first | omega | assumption | (simp only [wI] at *; omega)) (Nat.le_of_ble_eq_true rfl) rfl rfl ?_)
   intro w50 hB51 hO52
   have hO52z := hO52.size
   refine SeqR.done (bn (tn (CW.region (sd rfl (yl_move rfl rfl (sd rfl (yl_inc rfl rfl rfl (by omega) (sd rfl (yl_assign rfl rfl (dn ?_))))))))))
   have hB53 : B_l_toIdxS_0 p_a k11 (x22) = .cont ((x22.set k11 (p_a.getD k11 d_Idx))) := by simp only [B_l_toIdxS_0, cL]
   exact ⟨p_a.length - (k11 + 1), by omega, k11 + 1, (x22.set k11 (p_a.getD k11 d_Idx)), rfl, hlt41, (by omega), rfl, rfl, rfl, (RdS.only good_Idx (RdS.ex good_Idx hf37 hE45) hO52 (by simp only [Iv]; omega)), hB51, (Below.only (Ex.trans hf39 hE45) hO52 (by omega)), (loopM.cont hlt41 hB53).symm.trans hI32⟩
  ·refine CW.seq (CW.seq (CW.region (sd rfl (yl_move rfl rfl (sd rfl (yl_move rfl rfl (sd rfl (yl_len un23 rfl rfl (sd rfl (yl_lss rfl rfl rfl (dn ?_)))))))))))
   refine CW.cond_f rfl (lt_f hlt41) (CW.exit (tx (tx ?_)))
   have hL58 : loopM (B_l_toIdxS_0 p_a) (p_a.length - 0) 0 ((List.replicate p_a.length d_Idx)) = .done (x22) := hI32.symm.trans (loopM.stop hlt41)
   refine bx (tn (CW.seq (CW.region (sd rfl (yl_move rfl rfl (sd rfl (yl_assign rfl rfl (dn (CW.ret ?_)))))))))
   refine rr rfl (.cons rfl .nil) ?_
   have hM59 : p_a = (x22) := (to_IdxS _).symm.trans <| by simp only [l_toIdxS, hL58, cL]
   subst hM59
   exact ⟨(some ⟨b4, 0, none⟩), p_a.length, b4, (b4 + 1), rfl, hf38, (by omega), hf39⟩
end Go.Proofs.YtdbobbmagmcpnaaGreatDoor
