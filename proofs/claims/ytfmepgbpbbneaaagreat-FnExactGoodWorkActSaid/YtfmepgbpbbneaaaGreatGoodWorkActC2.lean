/- Good Work Act: what each call returns, part 2. -/
import Derived.Test.YtfmepgbpbbneaaaGreatGoodWorkActC1
set_option linter.unusedVariables false
set_option linter.unusedSimpArgs false
namespace Go.Proofs.YtfmepgbpbbneaaaGreat
open Go.RowKit Go.X
set_option maxRecDepth 100000 in
set_option maxHeartbeats 2000000 in
theorem c_s_l27Ways {A1 : Option Addr} {c1 : Nat} {A2 : Option Addr} {c2 : Nat} {A3 : Option Addr} {c3 : Nat} {w : World} (p_0 : DShift) (h1 : RdS w (Iv 0 w.heap.size) R_Table 3 A1 p_0.Ways.length c1 p_0.Ways) (h2 : RdS w (Iv 0 w.heap.size) (RF e_Int) 1 A2 p_0.At.length c2 p_0.At) (h3 : RdS w (Iv 0 w.heap.size) (RF e_Write) 3 A3 p_0.Store.length c3 p_0.Store) (o4 : ok_Shift p_0) : Cal Tryz.prog 54 #[.agg #[.string (bs (p_0.Name)), .slice A1 p_0.Ways.length c1, .slice A2 p_0.At.length c2, .slice A3 p_0.Store.length c3]] w fun v w' => v = .bool ((s_l27Ways p_0)) ∧ Ex w w' := by
 have hol5 : p_0.Name.length ≤ 1073741824 := o4.1
 have hol6 := o4.2.1.1
 have hol7 := o4.2.2.1.1
 have hol8 := o4.2.2.2.1
 refine Cal.of (vs := [.agg #[.string (bs (p_0.Name)), .slice A1 p_0.Ways.length c1, .slice A2 p_0.At.length c2, .slice A3 p_0.Store.length c3]]) Tryz.func54 rfl Tryz.ntmps54 rfl (CW.seq (CW.region (sd rfl (yl_box (cs := [.string (bs (p_0.Name)), .slice A1 p_0.Ways.length c1, .slice A2 p_0.At.length c2, .slice A3 p_0.Store.length c3]) rfl rfl rfl ?_))))
 intro b9 w10 hs11 hz12 hB13 hE14
 refine sd rfl (yl_assign rfl rfl (SeqR.done (tn (CW.seq (CW.seq (bcase (s_l1In (p_0.Ways.length : Int) 1 4) (fun hb16 => ?_) (fun hb16 => ?_)))))))
 ·have hb16p := f_l1In hb16
  obtain ⟨eb19, eo19, ec19, eA19, eS19, ebl19, el19, eR19, eC19⟩ := RdS.atD (RdS.ex good_Table h1 hE14) d_Table (i := 0) (by first | omega | assumption)
  obtain ⟨A20, c20, A21, c21, rfl, h20, h21⟩ := eR19
  have eC19 : Cells w10 eb19 (eo19 + 0 * 3) [.string (bs ((p_0.Ways.getD 0 d_Table).Name)), .slice A20 (((p_0.Ways.getD 0 d_Table).Cols).length) c20, .slice A21 (((p_0.Ways.getD 0 d_Table).Idxs).length) c21] := eC19
  refine bcase (s_GoodTable (p_0.Ways.getD 0 d_Table)) (fun hb23 => ?_) (fun hb23 => ?_)
  ·have hb23p := f_s_GoodTable hb23
   have q25 := RdS.ex good_Table h1 hE14
   obtain ⟨eb26, eo26, ec26, eA26, eS26, ebl26, el26, eR26, eC26⟩ := RdS.atD q25 d_Table (i := 0) (by first | omega | assumption)
   obtain ⟨A27, c27, A28, c28, rfl, h27, h28⟩ := eR26
   have eC26 : Cells w10 eb26 (eo26 + 0 * 3) [.string (bs ((p_0.Ways.getD 0 d_Table).Name)), .slice A27 (((p_0.Ways.getD 0 d_Table).Cols).length) c27, .slice A28 (((p_0.Ways.getD 0 d_Table).Idxs).length) c28] := eC26
   have hrf31 := rf_s_l24Idx (p_0.Ways.getD 0 d_Table) p_0.Name
   refine CW.drawsI 23 (vgetI [DetI (.pointer (some ⟨b9, 0 + 1, none⟩)), DetI (.slice A1 p_0.Ways.length c1), DetI (.int .i64 ((p_0.Ways.length : Int))), DetI (.bool ((s_l1In (p_0.Ways.length : Int) 1 4))), DetI (.bool (!(s_l1In (p_0.Ways.length : Int) 1 4))), DetI (.bool (!(s_l1In (p_0.Ways.length : Int) 1 4))), DetI (.pointer (some ⟨b9, 0 + 1, none⟩)), DetI (.slice A1 p_0.Ways.length c1), DetI (.pointer (some ⟨eb26, eo26 + 0 * 3, none⟩)), DetI (.agg #[.string (bs ((p_0.Ways.getD 0 d_Table).Name)), .slice A27 (((p_0.Ways.getD 0 d_Table).Cols).length) c27, .slice A28 (((p_0.Ways.getD 0 d_Table).Idxs).length) c28]), DetI (.bool ((s_GoodTable (p_0.Ways.getD 0 d_Table)))), DetI (.bool (!(s_GoodTable (p_0.Ways.getD 0 d_Table)))), DetI (.bool (!(s_GoodTable (p_0.Ways.getD 0 d_Table)))), DetI (.bool (!(s_GoodTable (p_0.Ways.getD 0 d_Table)))), DetI (.pointer (some ⟨b9, 0 + 1, none⟩)), DetI (.slice A1 p_0.Ways.length c1), DetI (.pointer (some ⟨eb26, eo26 + 0 * 3, none⟩)), DetI (.agg #[.string (bs ((p_0.Ways.getD 0 d_Table).Name)), .slice A27 (((p_0.Ways.getD 0 d_Table).Cols).length) c27, .slice A28 (((p_0.Ways.getD 0 d_Table).Idxs).length) c28]), DetI (.pointer (some ⟨b9, 0 + 0, none⟩)), DetI (.string (bs (p_0.Name))), DetI (.int .i64 ((s_l24Idx (p_0.Ways.getD 0 d_Table) p_0.Name))), DetI (.bool (decide ((s_l24Idx (p_0.Ways.getD 0 d_Table) p_0.Name) < 0))), DetI (.bool (decide ((s_l24Idx (p_0.Ways.getD 0 d_Table) p_0.Name) < 0)))]) Tryz.follows rfl rfl rfl rfl rfl rfl (vgetI_stable ⟨StableI.det _, StableI.det _, StableI.det _, StableI.det _, StableI.det _, StableI.det _, StableI.det _, StableI.det _, StableI.det _, StableI.det _, StableI.det _, StableI.det _, StableI.det _, StableI.det _, StableI.det _, StableI.det _, StableI.det _, StableI.det _, StableI.det _, StableI.det _, StableI.det _, StableI.det _, StableI.det _, trivial⟩) ⟨?_, ?_, ?_, ?_, ?_, ?_, ?_, ?_, ?_, ?_, ?_, ?_, ?_, ?_, ?_, ?_, ?_, ?_, ?_, ?_, ?_, ?_, ?_, trivial⟩ ?_
   ·exact fun _ _ h => os rfl ((yl_fieldAddr Tryz.fd40_1 rfl (h.old 1 _ rfl rfl) kI))
   ·exact fun _ _ h => os rfl ((yl_load1 Tryz.ty37 rfl (h.dt 0 6 rfl rfl rfl) (((Box.ex hB13 h.ex).cell 1).trans rfl) kI))
   ·exact fun _ _ h => os rfl ((yl_len Tryz.un37 rfl (h.dt 1 7 rfl rfl rfl) kI))
   ·intro L48 w49 hi50
    refine OpR.op' rfl (yl_call Tryz.en55 rfl (opvs_cons (hi50.dt 2 8 rfl rfl rfl) (opvs_cons rfl (opvs_cons rfl opvs_nil))) (Cal.mono (c_s_l1In (p_0.Ways.length : Int) 1 4) ?_))
    rintro v54 w53 ⟨rfl, hE55⟩
    exact ⟨rfl, hE55⟩
   ·exact fun _ _ h => os rfl ((yl_not rfl (h.dt 3 9 rfl rfl rfl) kI))
   ·exact fun _ _ h => os rfl ((yl_move rfl (h.dt 4 10 rfl rfl rfl) kI))
   ·exact fun _ _ h => OpR.want rfl rfl (h.dt 5 11 rfl rfl rfl) (not_t hb16) (Yl.sameI (yl_fieldAddr Tryz.fd40_1 rfl (h.old 1 _ rfl rfl) kI))
   ·exact fun _ _ h => OpR.want rfl rfl (h.dt 5 11 rfl rfl rfl) (not_t hb16) (Yl.sameI (yl_load1 Tryz.ty37 rfl (h.dt 6 12 rfl rfl rfl) (((Box.ex hB13 h.ex).cell 1).trans rfl) kI))
   ·intro L79 w80 hi81
    have hE82 := hi81.ex
    have hE82z := Ex.size hE82
    exact OpR.want rfl rfl (hi81.dt 5 11 rfl rfl rfl) (not_t hb16) (Yl.sameI (yl_indexAddrN Tryz.un37 Tryz.ty95 rfl (hi81.dt 7 13 rfl rfl rfl) rfl eA26 (by first | omega | assumption | (simp only [IntKind.wrap_i64] at *; omega)) kI))
   ·exact fun _ _ h => OpR.want rfl rfl (h.dt 5 11 rfl rfl rfl) (not_t hb16) (Yl.sameI (yl_loadN (cs := [.string (bs ((p_0.Ways.getD 0 d_Table).Name)), .slice A27 (((p_0.Ways.getD 0 d_Table).Cols).length) c27, .slice A28 (((p_0.Ways.getD 0 d_Table).Idxs).length) c28]) Tryz.ty95 rfl (h.dt 8 14 rfl rfl rfl) (Cells.ex eC26 h.ex) rfl kI))
   ·intro L92 w93 hi94
    have hE95 := hi94.ex
    refine OpR.want rfl rfl (hi94.dt 5 11 rfl rfl rfl) (not_t hb16) (yl_call Tryz.en88 rfl (opvs_cons (hi94.dt 9 15 rfl rfl rfl) opvs_nil) (Cal.mono (c_s_GoodTable (p_0.Ways.getD 0 d_Table) (RdS.up (RdS.ex good_Str h27 hE95) good_Str) (RdS.up (RdS.ex good_Idx h28 hE95) good_Idx) (okL.getD o4.2.1 ok_d_Table _)) ?_))
    rintro v101 w100 ⟨rfl, hE102⟩
    exact ⟨rfl, hE102⟩
   ·exact fun _ _ h => OpR.want rfl rfl (h.dt 5 11 rfl rfl rfl) (not_t hb16) (Yl.sameI (yl_not rfl (h.dt 10 16 rfl rfl rfl) kI))
   ·exact fun _ _ h => os rfl ((yl_pick_f rfl (h.dt 5 11 rfl rfl rfl) (not_t hb16) (h.dt 11 17 rfl rfl rfl) kI))
   ·exact fun _ _ h => os rfl ((yl_move rfl (h.dt 12 18 rfl rfl rfl) kI))
   ·exact fun _ _ h => OpR.want rfl rfl (h.dt 13 19 rfl rfl rfl) (not_t hb23) (Yl.sameI (yl_fieldAddr Tryz.fd40_1 rfl (h.old 1 _ rfl rfl) kI))
   ·exact fun _ _ h => OpR.want rfl rfl (h.dt 13 19 rfl rfl rfl) (not_t hb23) (Yl.sameI (yl_load1 Tryz.ty37 rfl (h.dt 14 20 rfl rfl rfl) (((Box.ex hB13 h.ex).cell 1).trans rfl) kI))
   ·intro L133 w134 hi135
    have hE136 := hi135.ex
    have hE136z := Ex.size hE136
    exact OpR.want rfl rfl (hi135.dt 13 19 rfl rfl rfl) (not_t hb23) (Yl.sameI (yl_indexAddrN Tryz.un37 Tryz.ty95 rfl (hi135.dt 15 21 rfl rfl rfl) rfl eA26 (by first | omega | assumption | (simp only [IntKind.wrap_i64] at *; omega)) kI))
   ·exact fun _ _ h => OpR.want rfl rfl (h.dt 13 19 rfl rfl rfl) (not_t hb23) (Yl.sameI (yl_loadN (cs := [.string (bs ((p_0.Ways.getD 0 d_Table).Name)), .slice A27 (((p_0.Ways.getD 0 d_Table).Cols).length) c27, .slice A28 (((p_0.Ways.getD 0 d_Table).Idxs).length) c28]) Tryz.ty95 rfl (h.dt 16 22 rfl rfl rfl) (Cells.ex eC26 h.ex) rfl kI))
   ·exact fun _ _ h => OpR.want rfl rfl (h.dt 13 19 rfl rfl rfl) (not_t hb23) (Yl.sameI (yl_fieldAddr Tryz.fd40_0 rfl (h.old 1 _ rfl rfl) kI))
   ·exact fun _ _ h => OpR.want rfl rfl (h.dt 13 19 rfl rfl rfl) (not_t hb23) (Yl.sameI (yl_load1 Tryz.ty9 rfl (h.dt 18 24 rfl rfl rfl) (((Box.ex hB13 h.ex).cell 0).trans rfl) kI))
   ·intro L159 w160 hi161
    have hE162 := hi161.ex
    refine OpR.want rfl rfl (hi161.dt 13 19 rfl rfl rfl) (not_t hb23) (yl_call Tryz.en89 rfl (opvs_cons (hi161.dt 17 23 rfl rfl rfl) (opvs_cons (hi161.dt 19 25 rfl rfl rfl) opvs_nil)) (Cal.mono (c_s_l24Idx (p_0.Ways.getD 0 d_Table) p_0.Name (RdS.up (RdS.ex good_Str h27 hE162) good_Str) (RdS.up (RdS.ex good_Idx h28 hE162) good_Idx) (okL.getD o4.2.1 ok_d_Table _) o4.1) ?_))
    rintro v169 w168 ⟨rfl, hE170⟩
    exact ⟨rfl, hE170⟩
   ·exact fun _ _ h => OpR.want rfl rfl (h.dt 13 19 rfl rfl rfl) (not_t hb23) (Yl.sameI (yl_lss rfl (h.dt 20 26 rfl rfl rfl) rfl kI))
   ·exact fun _ _ h => os rfl ((yl_pick_f rfl (h.dt 13 19 rfl rfl rfl) (not_t hb23) (h.dt 21 27 rfl rfl rfl) kI))
   ·intro fl186 fh187 L183 w184 hp185
    have hE188 := hp185.ex
    have hE188z := Ex.size hE188
    refine SeqR.done (tn (CW.sub (Sub.cons (d := 1) (hp185.old 1 _ rfl rfl) (Sub.cons (d := 28) (hp185.nt 22 28 rfl rfl rfl) (Sub.nil _))) (bcase (decide ((s_l24Idx (p_0.Ways.getD 0 d_Table) p_0.Name) < 0)) (fun hb191 => ?_) (fun hb191 => ?_))))
    ·have hb191p := dec_t hb191
     refine CW.cond_t rfl hb191 (CW.seq (CW.region (sd rfl (yl_assign rfl rfl (SeqR.done (tn (CW.ret (tr (rr rfl (.cons rfl .nil) ?_)))))))))
     have hM192 : (s_l27Ways p_0) = (false) := by simp only [s_l27Ways, hb16, hb23, hb191, cond_true, cond_false, loopE_done, loopE_ret]
     rw [hM192]
     exact ⟨rfl, (Ex.trans (Ex.trans (Ex.refl w) hE14) hE188)⟩
    ·have hb191p := dec_f hb191
     refine CW.cond_f rfl hb191 (CW.skip (tn (CW.seq (CW.region (sd rfl (yl_fieldAddr Tryz.fd40_1 rfl rfl ?_))))))
     have q195 := Box.ex hB13 hE188
     refine sd rfl (yl_load1 Tryz.ty37 rfl rfl ((q195.cell 1).trans rfl) (sd rfl (yl_fieldAddr Tryz.fd40_1 rfl rfl (sd rfl (yl_load1 Tryz.ty37 rfl rfl ((q195.cell 1).trans rfl) (sd rfl (yl_len Tryz.un37 rfl rfl (sd rfl (yl_sub rfl rfl rfl ?_)))))))))
     have q196 := RdS.ex good_Table q25 hE188
     obtain ⟨eb197, eo197, ec197, eA197, eS197, ebl197, el197, eR197, eC197⟩ := RdS.atD q196 d_Table (i := (IntKind.wrap .i64 ((p_0.Ways.length : Int) - 1)).toNat) (by first | omega | assumption | (simp only [IntKind.wrap_i64] at *; omega))
     obtain ⟨A198, c198, A199, c199, rfl, h198, h199⟩ := eR197
     have eC197 : Cells w184 eb197 (eo197 + ((IntKind.wrap .i64 ((p_0.Ways.length : Int) - 1)).toNat) * 3) [.string (bs ((p_0.Ways.getD ((IntKind.wrap .i64 ((p_0.Ways.length : Int) - 1)).toNat) d_Table).Name)), .slice A198 (((p_0.Ways.getD ((IntKind.wrap .i64 ((p_0.Ways.length : Int) - 1)).toNat) d_Table).Cols).length) c198, .slice A199 (((p_0.Ways.getD ((IntKind.wrap .i64 ((p_0.Ways.length : Int) - 1)).toNat) d_Table).Idxs).length) c199] := eC197
     refine sd rfl (yl_indexAddr Tryz.un37 Tryz.ty95 rfl rfl rfl eA197 (by first | omega | assumption | (simp only [IntKind.wrap_i64] at *; omega)) (by first | omega | assumption | (simp only [IntKind.wrap_i64] at *; omega)) (sd rfl (yl_loadN (cs := [.string (bs ((p_0.Ways.getD ((IntKind.wrap .i64 ((p_0.Ways.length : Int) - 1)).toNat) d_Table).Name)), .slice A198 (((p_0.Ways.getD ((IntKind.wrap .i64 ((p_0.Ways.length : Int) - 1)).toNat) d_Table).Cols).length) c198, .slice A199 (((p_0.Ways.getD ((IntKind.wrap .i64 ((p_0.Ways.length : Int) - 1)).toNat) d_Table).Idxs).length) c199]) Tryz.ty95 rfl rfl eC197 rfl (sd rfl (yl_alloc Tryz.ty95 (cs := [.string (bs (([] : Str))), .slice none 0 0, .slice none 0 0]) rfl rfl ?_)))))
     intro b200 w201 hs202 hz203 hB204 hE205
     refine SeqR.u rfl rfl (yl_store (vs := [.string (bs ((p_0.Ways.getD ((IntKind.wrap .i64 ((p_0.Ways.length : Int) - 1)).toNat) d_Table).Name)), .slice A198 (((p_0.Ways.getD ((IntKind.wrap .i64 ((p_0.Ways.length : Int) - 1)).toNat) d_Table).Cols).length) c198, .slice A199 (((p_0.Ways.getD ((IntKind.wrap .i64 ((p_0.Ways.length : Int) - 1)).toNat) d_Table).Idxs).length) c199]) Tryz.ty95 rfl rfl rfl rfl rfl rfl hB204 (Nat.le_of_ble_eq_true rfl) ?_)
     intro w206 hB207 hO208
     have hB207 : Box w206 b200 95 [.string (bs ((p_0.Ways.getD ((IntKind.wrap .i64 ((p_0.Ways.length : Int) - 1)).toNat) d_Table).Name)), .slice A198 (((p_0.Ways.getD ((IntKind.wrap .i64 ((p_0.Ways.length : Int) - 1)).toNat) d_Table).Cols).length) c198, .slice A199 (((p_0.Ways.getD ((IntKind.wrap .i64 ((p_0.Ways.length : Int) - 1)).toNat) d_Table).Idxs).length) c199] := hB207
     have hO208z := hO208.size
     refine SeqR.done (tn (CW.seq (CW.seq (CW.region (sd rfl (yl_loadN (cs := [.string (bs ((p_0.Ways.getD ((IntKind.wrap .i64 ((p_0.Ways.length : Int) - 1)).toNat) d_Table).Name)), .slice A198 (((p_0.Ways.getD ((IntKind.wrap .i64 ((p_0.Ways.length : Int) - 1)).toNat) d_Table).Cols).length) c198, .slice A199 (((p_0.Ways.getD ((IntKind.wrap .i64 ((p_0.Ways.length : Int) - 1)).toNat) d_Table).Idxs).length) c199]) Tryz.ty95 rfl rfl (hB207.cells (n := 3) rfl) rfl ?_))))))
     have q210 := RdS.only good_Str (RdS.ex good_Str h198 hE205) hO208 (by simp only [Iv]; omega)
     have q212 := RdS.only good_Idx (RdS.ex good_Idx h199 hE205) hO208 (by simp only [Iv]; omega)
     refine sd rfl (yl_call Tryz.en88 rfl (opvs_cons rfl opvs_nil) (Cal.mono (c_s_GoodTable (p_0.Ways.getD ((IntKind.wrap .i64 ((p_0.Ways.length : Int) - 1)).toNat) d_Table) (RdS.up q210 good_Str) (RdS.up q212 good_Idx) (okL.getD o4.2.1 ok_d_Table _)) ?_))
     rintro v214 w213 ⟨rfl, hE215⟩
     have hE215z := Ex.size hE215
     refine sd rfl (yl_not rfl rfl (sd rfl (yl_move rfl rfl (bcase (s_GoodTable (p_0.Ways.getD ((IntKind.wrap .i64 ((p_0.Ways.length : Int) - 1)).toNat) d_Table)) (fun hb216 => ?_) (fun hb216 => ?_)))))
     ·have hb216p := f_s_GoodTable hb216
      have q217 := Box.ex hB207 hE215
      refine sy rfl rfl (not_t hb216) (yl_loadN (cs := [.string (bs ((p_0.Ways.getD ((IntKind.wrap .i64 ((p_0.Ways.length : Int) - 1)).toNat) d_Table).Name)), .slice A198 (((p_0.Ways.getD ((IntKind.wrap .i64 ((p_0.Ways.length : Int) - 1)).toNat) d_Table).Cols).length) c198, .slice A199 (((p_0.Ways.getD ((IntKind.wrap .i64 ((p_0.Ways.length : Int) - 1)).toNat) d_Table).Idxs).length) c199]) Tryz.ty95 rfl rfl (q217.cells (n := 3) rfl) rfl (sy rfl rfl (not_t hb216) (yl_fieldAddr Tryz.fd40_0 rfl rfl ?_)))
      have q220 := Box.ex (Box.only (Box.ex q195 hE205) hO208 (by omega)) hE215
      refine sy rfl rfl (not_t hb216) (yl_load1 Tryz.ty9 rfl rfl ((q220.cell 0).trans rfl) ?_)
      have q221 := RdS.ex good_Str q210 hE215
      have q222 := RdS.ex good_Idx q212 hE215
      refine sy rfl rfl (not_t hb216) (yl_call Tryz.en89 rfl (opvs_cons rfl (opvs_cons rfl opvs_nil)) (Cal.mono (c_s_l24Idx (p_0.Ways.getD ((IntKind.wrap .i64 ((p_0.Ways.length : Int) - 1)).toNat) d_Table) p_0.Name (RdS.up q221 good_Str) (RdS.up q222 good_Idx) (okL.getD o4.2.1 ok_d_Table _) o4.1) ?_))
      rintro v224 w223 ⟨rfl, hE225⟩
      have hE225z := Ex.size hE225
      have hrf226 := rf_s_l24Idx (p_0.Ways.getD ((IntKind.wrap .i64 ((p_0.Ways.length : Int) - 1)).toNat) d_Table) p_0.Name
      refine sy rfl rfl (not_t hb216) (yl_lss rfl rfl rfl (sd rfl (yl_pick_f rfl rfl (not_t hb216) rfl (SeqR.done (tn (bcase (decide ((s_l24Idx (p_0.Ways.getD ((IntKind.wrap .i64 ((p_0.Ways.length : Int) - 1)).toNat) d_Table) p_0.Name) < 0)) (fun hb227 => ?_) (fun hb227 => ?_)))))))
      ·have hb227p := dec_t hb227
       refine CW.cond_t rfl hb227 (CW.seq (CW.region (sd rfl (yl_assign rfl rfl (SeqR.done (tn (CW.ret (tr (rr rfl (.cons rfl .nil) ?_)))))))))
       have hM228 : (s_l27Ways p_0) = (false) := by simp only [s_l27Ways, hb16, hb23, hb191, hb216, hb227, cond_true, cond_false, loopE_done, loopE_ret]
       rw [hM228]
       exact ⟨rfl, (Ex.trans (Ex.trans (Below.only (Ex.trans (Ex.trans (Ex.trans (Ex.refl w) hE14) hE188) hE205) hO208 (by omega)) hE215) hE225)⟩
      ·have hb227p := dec_f hb227
       refine CW.cond_f rfl hb227 (CW.skip (tn (CW.seq ?_)))
       have q235 := Box.ex q220 hE225
       have q241 := Box.ex q217 hE225
       have q243 := RdS.ex good_Idx q222 hE225
       obtain ⟨eb245, eo245, ec245, eA245, eS245, ebl245, el245, eR245, eC245⟩ := RdS.atD q243 d_Idx (i := ((s_l24Idx (p_0.Ways.getD ((IntKind.wrap .i64 ((p_0.Ways.length : Int) - 1)).toNat) d_Table) p_0.Name)).toNat) (by first | omega | assumption | (simp only [IntKind.wrap_i64] at *; omega))
       obtain rfl := eR245
       have eC245 : Cells w223 eb245 (eo245 + (((s_l24Idx (p_0.Ways.getD ((IntKind.wrap .i64 ((p_0.Ways.length : Int) - 1)).toNat) d_Table) p_0.Name)).toNat) * 3) [.string (bs ((((p_0.Ways.getD ((IntKind.wrap .i64 ((p_0.Ways.length : Int) - 1)).toNat) d_Table).Idxs).getD (((s_l24Idx (p_0.Ways.getD ((IntKind.wrap .i64 ((p_0.Ways.length : Int) - 1)).toNat) d_Table) p_0.Name)).toNat) d_Idx).Name)), .int .i64 ((((p_0.Ways.getD ((IntKind.wrap .i64 ((p_0.Ways.length : Int) - 1)).toNat) d_Table).Idxs).getD (((s_l24Idx (p_0.Ways.getD ((IntKind.wrap .i64 ((p_0.Ways.length : Int) - 1)).toNat) d_Table) p_0.Name)).toNat) d_Idx).Col), .int .i64 ((((p_0.Ways.getD ((IntKind.wrap .i64 ((p_0.Ways.length : Int) - 1)).toNat) d_Table).Idxs).getD (((s_l24Idx (p_0.Ways.getD ((IntKind.wrap .i64 ((p_0.Ways.length : Int) - 1)).toNat) d_Table) p_0.Name)).toNat) d_Idx).Stage)] := eC245
       have hrf260 := rf_s_l24Idx (p_0.Ways.getD ((IntKind.wrap .i64 ((p_0.Ways.length : Int) - 1)).toNat) d_Table) p_0.Name
       refine CW.drawsI 17 (vgetI [DetI (.pointer (some ⟨b9, 0 + 1, none⟩)), DetI (.slice A1 p_0.Ways.length c1), DetI (.pointer (some ⟨eb26, eo26 + 0 * 3, none⟩)), DetI (.agg #[.string (bs ((p_0.Ways.getD 0 d_Table).Name)), .slice A27 (((p_0.Ways.getD 0 d_Table).Cols).length) c27, .slice A28 (((p_0.Ways.getD 0 d_Table).Idxs).length) c28]), DetI (.pointer (some ⟨b9, 0 + 0, none⟩)), DetI (.string (bs (p_0.Name))), DetI (.pointer (some ⟨b200, 0 + 2, none⟩)), DetI (.slice A199 (((p_0.Ways.getD ((IntKind.wrap .i64 ((p_0.Ways.length : Int) - 1)).toNat) d_Table).Idxs).length) c199), DetI (.agg #[.string (bs ((p_0.Ways.getD ((IntKind.wrap .i64 ((p_0.Ways.length : Int) - 1)).toNat) d_Table).Name)), .slice A198 (((p_0.Ways.getD ((IntKind.wrap .i64 ((p_0.Ways.length : Int) - 1)).toNat) d_Table).Cols).length) c198, .slice A199 (((p_0.Ways.getD ((IntKind.wrap .i64 ((p_0.Ways.length : Int) - 1)).toNat) d_Table).Idxs).length) c199]), DetI (.pointer (some ⟨b9, 0 + 0, none⟩)), DetI (.string (bs (p_0.Name))), DetI (.int .i64 ((s_l24Idx (p_0.Ways.getD ((IntKind.wrap .i64 ((p_0.Ways.length : Int) - 1)).toNat) d_Table) p_0.Name))), DetI (.pointer (some ⟨eb245, eo245 + (((s_l24Idx (p_0.Ways.getD ((IntKind.wrap .i64 ((p_0.Ways.length : Int) - 1)).toNat) d_Table) p_0.Name)).toNat) * 3, none⟩)), DetI (.pointer (some ⟨eb245, eo245 + (((s_l24Idx (p_0.Ways.getD ((IntKind.wrap .i64 ((p_0.Ways.length : Int) - 1)).toNat) d_Table) p_0.Name)).toNat) * 3 + 2, none⟩)), DetI (.int .i64 ((((p_0.Ways.getD ((IntKind.wrap .i64 ((p_0.Ways.length : Int) - 1)).toNat) d_Table).Idxs).getD (((s_l24Idx (p_0.Ways.getD ((IntKind.wrap .i64 ((p_0.Ways.length : Int) - 1)).toNat) d_Table) p_0.Name)).toNat) d_Idx).Stage)), fun lo hi v wq => ∃ A257 c257 lo257 hi257, v = .slice A257 ((s_l24Way (p_0.Ways.getD 0 d_Table) p_0.Name ((((p_0.Ways.getD ((IntKind.wrap .i64 ((p_0.Ways.length : Int) - 1)).toNat) d_Table).Idxs).getD (((s_l24Idx (p_0.Ways.getD ((IntKind.wrap .i64 ((p_0.Ways.length : Int) - 1)).toNat) d_Table) p_0.Name)).toNat) d_Idx).Stage)).length) c257 ∧ OwnL wq lo257 hi257 95 3 R_Table A257 ((s_l24Way (p_0.Ways.getD 0 d_Table) p_0.Name ((((p_0.Ways.getD ((IntKind.wrap .i64 ((p_0.Ways.length : Int) - 1)).toNat) d_Table).Idxs).getD (((s_l24Idx (p_0.Ways.getD ((IntKind.wrap .i64 ((p_0.Ways.length : Int) - 1)).toNat) d_Table) p_0.Name)).toNat) d_Idx).Stage)).length) c257 (s_l24Way (p_0.Ways.getD 0 d_Table) p_0.Name ((((p_0.Ways.getD ((IntKind.wrap .i64 ((p_0.Ways.length : Int) - 1)).toNat) d_Table).Idxs).getD (((s_l24Idx (p_0.Ways.getD ((IntKind.wrap .i64 ((p_0.Ways.length : Int) - 1)).toNat) d_Table) p_0.Name)).toNat) d_Idx).Stage)) ∧ (okL ok_Table) (s_l24Way (p_0.Ways.getD 0 d_Table) p_0.Name ((((p_0.Ways.getD ((IntKind.wrap .i64 ((p_0.Ways.length : Int) - 1)).toNat) d_Table).Idxs).getD (((s_l24Idx (p_0.Ways.getD ((IntKind.wrap .i64 ((p_0.Ways.length : Int) - 1)).toNat) d_Table) p_0.Name)).toNat) d_Idx).Stage)) ∧ (lo ≤ lo257 ∧ lo257 ≤ hi257 ∧ hi257 ≤ hi), fun lo hi v wq => ∃ A257 c257, v = .slice A257 ((s_l24Way (p_0.Ways.getD 0 d_Table) p_0.Name ((((p_0.Ways.getD ((IntKind.wrap .i64 ((p_0.Ways.length : Int) - 1)).toNat) d_Table).Idxs).getD (((s_l24Idx (p_0.Ways.getD ((IntKind.wrap .i64 ((p_0.Ways.length : Int) - 1)).toNat) d_Table) p_0.Name)).toNat) d_Idx).Stage)).length) c257 ∧ RdS wq (Ge w223.heap.size) R_Table 3 A257 (s_l24Way (p_0.Ways.getD 0 d_Table) p_0.Name ((((p_0.Ways.getD ((IntKind.wrap .i64 ((p_0.Ways.length : Int) - 1)).toNat) d_Table).Idxs).getD (((s_l24Idx (p_0.Ways.getD ((IntKind.wrap .i64 ((p_0.Ways.length : Int) - 1)).toNat) d_Table) p_0.Name)).toNat) d_Idx).Stage)).length c257 (s_l24Way (p_0.Ways.getD 0 d_Table) p_0.Name ((((p_0.Ways.getD ((IntKind.wrap .i64 ((p_0.Ways.length : Int) - 1)).toNat) d_Table).Idxs).getD (((s_l24Idx (p_0.Ways.getD ((IntKind.wrap .i64 ((p_0.Ways.length : Int) - 1)).toNat) d_Table) p_0.Name)).toNat) d_Idx).Stage))]) Tryz.follows rfl rfl rfl rfl rfl rfl (vgetI_stable ⟨StableI.det _, StableI.det _, StableI.det _, StableI.det _, StableI.det _, StableI.det _, StableI.det _, StableI.det _, StableI.det _, StableI.det _, StableI.det _, StableI.det _, StableI.det _, StableI.det _, StableI.det _, (fun _ _ _ _ _ ⟨A257, c257, lo257, hi257, hv, h257, ho258, hr0⟩ e => ⟨A257, c257, lo257, hi257, hv, OwnL.ex good_Table h257 e, ho258, hr0⟩), (fun _ _ _ _ _ ⟨A257, c257, hv, h259⟩ e => ⟨A257, c257, hv, RdS.ex good_Table h259 e⟩), trivial⟩) ⟨?_, ?_, ?_, ?_, ?_, ?_, ?_, ?_, ?_, ?_, ?_, ?_, ?_, ?_, ?_, ?_, ?_, trivial⟩ ?_
       ·exact fun _ _ h => os rfl ((yl_fieldAddr Tryz.fd40_1 rfl (h.old 1 _ rfl rfl) kI))
       ·exact fun _ _ h => os rfl ((yl_load1 Tryz.ty37 rfl (h.dt 0 47 rfl rfl rfl) (((Box.ex q235 h.ex).cell 1).trans rfl) kI))
       ·intro L272 w273 hi274
        have hE275 := hi274.ex
        have hE275z := Ex.size hE275
        exact os rfl ((yl_indexAddrN Tryz.un37 Tryz.ty95 rfl (hi274.dt 1 48 rfl rfl rfl) rfl eA26 (by first | omega | assumption | (simp only [IntKind.wrap_i64] at *; omega)) kI))
       ·intro L277 w278 hi279
        have hE280 := hi279.ex
        have hE280z := Ex.size hE280
        exact os rfl ((yl_loadN (cs := [.string (bs ((p_0.Ways.getD 0 d_Table).Name)), .slice A27 (((p_0.Ways.getD 0 d_Table).Cols).length) c27, .slice A28 (((p_0.Ways.getD 0 d_Table).Idxs).length) c28]) Tryz.ty95 rfl (hi279.dt 2 49 rfl rfl rfl) (Cells.ex (Cells.ex (Cells.ex (Cells.only (Cells.ex (Cells.ex eC26 hE188) hE205) hO208 (by omega)) hE215) hE225) hE280) rfl kI))
       ·exact fun _ _ h => os rfl ((yl_fieldAddr Tryz.fd40_0 rfl (h.old 1 _ rfl rfl) kI))
       ·exact fun _ _ h => os rfl ((yl_load1 Tryz.ty9 rfl (h.dt 4 51 rfl rfl rfl) (((Box.ex q235 h.ex).cell 0).trans rfl) kI))
       ·exact fun _ _ h => os rfl ((yl_fieldAddr Tryz.fd95_2 rfl (h.old 3 _ rfl rfl) kI))
       ·exact fun _ _ h => os rfl ((yl_load1 Tryz.ty93 rfl (h.dt 6 53 rfl rfl rfl) (((Box.ex q241 h.ex).cell 2).trans rfl) kI))
       ·exact fun _ _ h => os rfl ((yl_loadN (cs := [.string (bs ((p_0.Ways.getD ((IntKind.wrap .i64 ((p_0.Ways.length : Int) - 1)).toNat) d_Table).Name)), .slice A198 (((p_0.Ways.getD ((IntKind.wrap .i64 ((p_0.Ways.length : Int) - 1)).toNat) d_Table).Cols).length) c198, .slice A199 (((p_0.Ways.getD ((IntKind.wrap .i64 ((p_0.Ways.length : Int) - 1)).toNat) d_Table).Idxs).length) c199]) Tryz.ty95 rfl (h.old 3 _ rfl rfl) ((Box.ex q241 h.ex).cells (n := 3) rfl) rfl kI))
       ·exact fun _ _ h => os rfl ((yl_fieldAddr Tryz.fd40_0 rfl (h.old 1 _ rfl rfl) kI))
       ·exact fun _ _ h => os rfl ((yl_load1 Tryz.ty9 rfl (h.dt 9 56 rfl rfl rfl) (((Box.ex q235 h.ex).cell 0).trans rfl) kI))
       ·intro L322 w323 hi324
        have hE325 := hi324.ex
        refine OpR.op' rfl (yl_call Tryz.en89 rfl (opvs_cons (hi324.dt 8 55 rfl rfl rfl) (opvs_cons (hi324.dt 10 57 rfl rfl rfl) opvs_nil)) (Cal.mono (c_s_l24Idx (p_0.Ways.getD ((IntKind.wrap .i64 ((p_0.Ways.length : Int) - 1)).toNat) d_Table) p_0.Name (RdS.up (RdS.ex good_Str (RdS.ex good_Str q221 hE225) hE325) good_Str) (RdS.up (RdS.ex good_Idx q243 hE325) good_Idx) (okL.getD o4.2.1 ok_d_Table _) o4.1) ?_))
        rintro v331 w330 ⟨rfl, hE332⟩
        exact ⟨rfl, hE332⟩
       ·intro L333 w334 hi335
        have hE336 := hi335.ex
        have hE336z := Ex.size hE336
        exact os rfl ((yl_indexAddr Tryz.un93 Tryz.ty137 rfl (hi335.dt 7 54 rfl rfl rfl) (hi335.dt 11 58 rfl rfl rfl) eA245 (by first | omega | assumption | (simp only [IntKind.wrap_i64] at *; omega)) (by first | omega | assumption | (simp only [IntKind.wrap_i64] at *; omega)) kI))
       ·exact fun _ _ h => os rfl ((yl_fieldAddr Tryz.fd137_2 rfl (h.dt 12 59 rfl rfl rfl) kI))
       ·exact fun _ _ h => os rfl ((yl_load1 Tryz.ty3 rfl (h.dt 13 60 rfl rfl rfl) ((Cells.ex eC245 h.ex) 2 _ rfl) kI))
       ·intro L350 w351 hi352
        have hE353 := hi352.ex
        have hE353z := Ex.size hE353
        refine OpR.op' rfl (yl_call Tryz.en90 rfl (opvs_cons (hi352.dt 3 50 rfl rfl rfl) (opvs_cons (hi352.dt 5 52 rfl rfl rfl) (opvs_cons (hi352.dt 14 61 rfl rfl rfl) opvs_nil))) (Cal.mono (c_s_l24Way (p_0.Ways.getD 0 d_Table) p_0.Name ((((p_0.Ways.getD ((IntKind.wrap .i64 ((p_0.Ways.length : Int) - 1)).toNat) d_Table).Idxs).getD (((s_l24Idx (p_0.Ways.getD ((IntKind.wrap .i64 ((p_0.Ways.length : Int) - 1)).toNat) d_Table) p_0.Name)).toNat) d_Idx).Stage) (RdS.up (RdS.ex good_Str (RdS.ex good_Str (RdS.ex good_Str (RdS.only good_Str (RdS.ex good_Str (RdS.ex good_Str h27 hE188) hE205) hO208 (by simp only [Iv]; omega)) hE215) hE225) hE353) good_Str) (RdS.up (RdS.ex good_Idx (RdS.ex good_Idx (RdS.ex good_Idx (RdS.only good_Idx (RdS.ex good_Idx (RdS.ex good_Idx h28 hE188) hE205) hO208 (by simp only [Iv]; omega)) hE215) hE225) hE353) good_Idx) (okL.getD o4.2.1 ok_d_Table _) o4.1 (by first | omega | assumption | (simp only [IntKind.wrap_i64] at *; omega)) (stage_rng hb23 (by omega)) (stage_rng hb216 (by omega))) ?_))
        rintro v362 w359 ⟨A360, c360, lo360, hi360, rfl, h360, ho361, hrn364, hE363⟩
        exact ⟨⟨A360, c360, lo360, hi360, rfl, h360, ho361, hrn364⟩, hE363⟩
       ·intro L365 w366 hi367
        have hE368 := hi367.ex
        have hE368z := Ex.size hE368
        obtain ⟨lo370, hh371, _, hx369, hr372, hr373, hr374, A257_375, c257_376, lo257_377, hi257_378, rfl, h379, h380, hrn381⟩ := hi367.dep 15 62 rfl rfl
        exact os rfl ((yl_assign rfl hx369 ⟨fun _ _ => ⟨A257_375, c257_376, rfl, (RdS.ivG good_Table (OwnL.rd good_Table h379) (by omega))⟩, rfl⟩))
       ·intro fl385 fh386 L382 w383 hp384
        have hE387 := hp384.ex
        have hE387z := Ex.size hE387
        have hr390 := hp384.rng 15 rfl
        obtain ⟨_, hx389, A257_391, c257_392, lo257_393, hi257_394, rfl, h395, h396, hrn397⟩ := hp384.new 15 62 rfl rfl
        obtain ⟨_, hx398, A257_399, c257_400, rfl, h401⟩ := hp384.new 16 4 rfl rfl
        refine SeqR.done (tn (CW.sub (Sub.cons (d := 1) (hp384.old 1 _ rfl rfl) (Sub.cons (d := 4) hx398 (Sub.nil _))) (CW.seq (CW.seq (CW.region (sd rfl (yl_move rfl rfl (sd rfl (yl_len Tryz.un37 rfl rfl (sd rfl (yl_fieldAddr Tryz.fd40_1 rfl rfl ?_)))))))))))
        have q402 := Box.ex q235 hE387
        refine sd rfl (yl_load1 Tryz.ty37 rfl rfl ((q402.cell 1).trans rfl) (sd rfl (yl_len Tryz.un37 rfl rfl (sd rfl (yl_neq rfl rfl rfl (SeqR.done (tn (bcase (decide (((s_l24Way (p_0.Ways.getD 0 d_Table) p_0.Name ((((p_0.Ways.getD ((IntKind.wrap .i64 ((p_0.Ways.length : Int) - 1)).toNat) d_Table).Idxs).getD (((s_l24Idx (p_0.Ways.getD ((IntKind.wrap .i64 ((p_0.Ways.length : Int) - 1)).toNat) d_Table) p_0.Name)).toNat) d_Idx).Stage)).length : Int) = (p_0.Ways.length : Int))) (fun hb403 => ?_) (fun hb403 => ?_)))))))))
        ·have hb403p := dec_t hb403
         refine CW.cond_f rfl (not_t hb403) (CW.skip (tn (CW.seq (CW.seq (CW.region (sd rfl (yl_move rfl rfl (sd rfl (yl_len Tryz.un37 rfl rfl (sd rfl (yl_move rfl rfl ?_)))))))))))
         refine SeqR.done (tn (CW.block (CW.loop (fun m405 L406 w407 => ∃ (k404 : Nat), m405 = (s_l24Way (p_0.Ways.getD 0 d_Table) p_0.Name ((((p_0.Ways.getD ((IntKind.wrap .i64 ((p_0.Ways.length : Int) - 1)).toNat) d_Table).Idxs).getD (((s_l24Idx (p_0.Ways.getD ((IntKind.wrap .i64 ((p_0.Ways.length : Int) - 1)).toNat) d_Table) p_0.Name)).toNat) d_Idx).Stage)).length - k404 ∧ k404 ≤ (s_l24Way (p_0.Ways.getD 0 d_Table) p_0.Name ((((p_0.Ways.getD ((IntKind.wrap .i64 ((p_0.Ways.length : Int) - 1)).toNat) d_Table).Idxs).getD (((s_l24Idx (p_0.Ways.getD ((IntKind.wrap .i64 ((p_0.Ways.length : Int) - 1)).toNat) d_Table) p_0.Name)).toNat) d_Idx).Stage)).length ∧ w383.heap.size ≤ w407.heap.size ∧ lkp L406 1 = some (.pointer (some ⟨b9, 0, none⟩)) ∧ lkp L406 4 = some (.slice A257_399 ((s_l24Way (p_0.Ways.getD 0 d_Table) p_0.Name ((((p_0.Ways.getD ((IntKind.wrap .i64 ((p_0.Ways.length : Int) - 1)).toNat) d_Table).Idxs).getD (((s_l24Idx (p_0.Ways.getD ((IntKind.wrap .i64 ((p_0.Ways.length : Int) - 1)).toNat) d_Table) p_0.Name)).toNat) d_Idx).Stage)).length) c257_400) ∧ lkp L406 70 = some (.int .i64 (((s_l24Way (p_0.Ways.getD 0 d_Table) p_0.Name ((((p_0.Ways.getD ((IntKind.wrap .i64 ((p_0.Ways.length : Int) - 1)).toNat) d_Table).Idxs).getD (((s_l24Idx (p_0.Ways.getD ((IntKind.wrap .i64 ((p_0.Ways.length : Int) - 1)).toNat) d_Table) p_0.Name)).toNat) d_Idx).Stage)).length : Int))) ∧ lkp L406 71 = some (.int .i64 ((k404 : Int))) ∧ Box w407 b9 40 [.string (bs (p_0.Name)), .slice A1 p_0.Ways.length c1, .slice A2 p_0.At.length c2, .slice A3 p_0.Store.length c3] ∧ RdS w407 (Iv 0 w.heap.size) R_Table 3 A1 p_0.Ways.length c1 p_0.Ways ∧ RdS w407 (Iv 0 w.heap.size) (RF e_Int) 1 A2 p_0.At.length c2 p_0.At ∧ RdS w407 (Iv 0 w.heap.size) (RF e_Write) 3 A3 p_0.Store.length c3 p_0.Store ∧ RdS w407 (Ge w223.heap.size) R_Table 3 A257_399 (s_l24Way (p_0.Ways.getD 0 d_Table) p_0.Name ((((p_0.Ways.getD ((IntKind.wrap .i64 ((p_0.Ways.length : Int) - 1)).toNat) d_Table).Idxs).getD (((s_l24Idx (p_0.Ways.getD ((IntKind.wrap .i64 ((p_0.Ways.length : Int) - 1)).toNat) d_Table) p_0.Name)).toNat) d_Idx).Stage)).length c257_400 (s_l24Way (p_0.Ways.getD 0 d_Table) p_0.Name ((((p_0.Ways.getD ((IntKind.wrap .i64 ((p_0.Ways.length : Int) - 1)).toNat) d_Table).Idxs).getD (((s_l24Idx (p_0.Ways.getD ((IntKind.wrap .i64 ((p_0.Ways.length : Int) - 1)).toNat) d_Table) p_0.Name)).toNat) d_Idx).Stage)) ∧ Ex w w407 ∧ loopM (B_s_l27Ways_0 p_0) ((s_l24Way (p_0.Ways.getD 0 d_Table) p_0.Name ((((p_0.Ways.getD ((IntKind.wrap .i64 ((p_0.Ways.length : Int) - 1)).toNat) d_Table).Idxs).getD (((s_l24Idx (p_0.Ways.getD ((IntKind.wrap .i64 ((p_0.Ways.length : Int) - 1)).toNat) d_Table) p_0.Name)).toNat) d_Idx).Stage)).length - k404) k404 () = loopM (B_s_l27Ways_0 p_0) ((s_l24Way (p_0.Ways.getD 0 d_Table) p_0.Name ((((p_0.Ways.getD ((IntKind.wrap .i64 ((p_0.Ways.length : Int) - 1)).toNat) d_Table).Idxs).getD (((s_l24Idx (p_0.Ways.getD ((IntKind.wrap .i64 ((p_0.Ways.length : Int) - 1)).toNat) d_Table) p_0.Name)).toNat) d_Idx).Stage)).length - 0) 0 ()) ((s_l24Way (p_0.Ways.getD 0 d_Table) p_0.Name ((((p_0.Ways.getD ((IntKind.wrap .i64 ((p_0.Ways.length : Int) - 1)).toNat) d_Table).Idxs).getD (((s_l24Idx (p_0.Ways.getD ((IntKind.wrap .i64 ((p_0.Ways.length : Int) - 1)).toNat) d_Table) p_0.Name)).toNat) d_Idx).Stage)).length - 0) ?_ ?_)))
         ·exact ⟨0, rfl, (by omega), Nat.le_refl _, rfl, rfl, rfl, rfl, q402, (RdS.ex good_Table (RdS.ex good_Table (RdS.ex good_Table (RdS.only good_Table (RdS.ex good_Table q196 hE205) hO208 (by simp only [Iv]; omega)) hE215) hE225) hE387), (RdS.ex good_Int (RdS.ex good_Int (RdS.ex good_Int (RdS.only good_Int (RdS.ex good_Int (RdS.ex good_Int (RdS.ex good_Int h2 hE14) hE188) hE205) hO208 (by simp only [Iv]; omega)) hE215) hE225) hE387), (RdS.ex good_Write (RdS.ex good_Write (RdS.ex good_Write (RdS.only good_Write (RdS.ex good_Write (RdS.ex good_Write (RdS.ex good_Write h3 hE14) hE188) hE205) hO208 (by simp only [Iv]; omega)) hE215) hE225) hE387), h401, (Ex.trans (Ex.trans (Ex.trans (Below.only (Ex.trans (Ex.trans (Ex.trans (Ex.refl w) hE14) hE188) hE205) hO208 (by omega)) hE215) hE225) hE387), rfl⟩
         ·rintro m434 L435 w436 ⟨k404, rfl, hk437, hsz439, hl440, hl441, hl442, hl443, hf444, hf445, hf446, hf447, hf448, hf449, hI438⟩
          refine CW.sub (Sub.cons hl440 (Sub.cons hl441 (Sub.cons hl442 (Sub.cons hl443 (Sub.nil _))))) ?_
          have hf444z := Box.lt hf444
          have hf449z := Ex.size hf449
          have hbg450 := RdS.big hf448
          rcases Nat.lt_or_ge k404 ((s_l24Way (p_0.Ways.getD 0 d_Table) p_0.Name ((((p_0.Ways.getD ((IntKind.wrap .i64 ((p_0.Ways.length : Int) - 1)).toNat) d_Table).Idxs).getD (((s_l24Idx (p_0.Ways.getD ((IntKind.wrap .i64 ((p_0.Ways.length : Int) - 1)).toNat) d_Table) p_0.Name)).toNat) d_Idx).Stage)).length) with hlt451 | hlt451
          ·refine CW.seq (CW.region (sd rfl (yl_lss rfl rfl rfl (SeqR.done (tn (CW.seq (CW.cond_t rfl (lt_t hlt451) (CW.skip (tn ?_)))))))))
           refine CW.seq (CW.block (CW.seq (CW.region (sd rfl (yl_move rfl rfl (sd rfl (yl_assign rfl rfl (SeqR.done (tn (CW.seq ?_))))))))))
           obtain ⟨eb452, eo452, ec452, eA452, eS452, ebl452, el452, eR452, eC452⟩ := RdS.atD hf445 d_Table (i := k404) (by first | omega | assumption)
           obtain ⟨A453, c453, A454, c454, rfl, h453, h454⟩ := eR452
           have eC452 : Cells w436 eb452 (eo452 + k404 * 3) [.string (bs ((p_0.Ways.getD k404 d_Table).Name)), .slice A453 (((p_0.Ways.getD k404 d_Table).Cols).length) c453, .slice A454 (((p_0.Ways.getD k404 d_Table).Idxs).length) c454] := eC452
           refine bcase (s_GoodTable (p_0.Ways.getD k404 d_Table)) (fun hb456 => ?_) (fun hb456 => ?_)
           ·have hb456p := f_s_GoodTable hb456
            obtain ⟨eb457, eo457, ec457, eA457, eS457, ebl457, el457, eR457, eC457⟩ := RdS.atD hf445 d_Table (i := k404) (by first | omega | assumption)
            obtain ⟨A458, c458, A459, c459, rfl, h458, h459⟩ := eR457
            have eC457 : Cells w436 eb457 (eo457 + k404 * 3) [.string (bs ((p_0.Ways.getD k404 d_Table).Name)), .slice A458 (((p_0.Ways.getD k404 d_Table).Cols).length) c458, .slice A459 (((p_0.Ways.getD k404 d_Table).Idxs).length) c459] := eC457
            obtain ⟨eb461, eo461, ec461, eA461, eS461, ebl461, el461, eR461, eC461⟩ := RdS.atD hf448 d_Table (i := k404) (by first | omega | assumption)
            obtain ⟨A462, c462, A463, c463, rfl, h462, h463⟩ := eR461
            have eC461 : Cells w436 eb461 (eo461 + k404 * 3) [.string (bs (((s_l24Way (p_0.Ways.getD 0 d_Table) p_0.Name ((((p_0.Ways.getD ((IntKind.wrap .i64 ((p_0.Ways.length : Int) - 1)).toNat) d_Table).Idxs).getD (((s_l24Idx (p_0.Ways.getD ((IntKind.wrap .i64 ((p_0.Ways.length : Int) - 1)).toNat) d_Table) p_0.Name)).toNat) d_Idx).Stage)).getD k404 d_Table).Name)), .slice A462 ((((s_l24Way (p_0.Ways.getD 0 d_Table) p_0.Name ((((p_0.Ways.getD ((IntKind.wrap .i64 ((p_0.Ways.length : Int) - 1)).toNat) d_Table).Idxs).getD (((s_l24Idx (p_0.Ways.getD ((IntKind.wrap .i64 ((p_0.Ways.length : Int) - 1)).toNat) d_Table) p_0.Name)).toNat) d_Idx).Stage)).getD k404 d_Table).Cols).length) c462, .slice A463 ((((s_l24Way (p_0.Ways.getD 0 d_Table) p_0.Name ((((p_0.Ways.getD ((IntKind.wrap .i64 ((p_0.Ways.length : Int) - 1)).toNat) d_Table).Idxs).getD (((s_l24Idx (p_0.Ways.getD ((IntKind.wrap .i64 ((p_0.Ways.length : Int) - 1)).toNat) d_Table) p_0.Name)).toNat) d_Idx).Stage)).getD k404 d_Table).Idxs).length) c463] := eC461
            refine bcase (s_l24SameCols ((s_l24Way (p_0.Ways.getD 0 d_Table) p_0.Name ((((p_0.Ways.getD ((IntKind.wrap .i64 ((p_0.Ways.length : Int) - 1)).toNat) d_Table).Idxs).getD (((s_l24Idx (p_0.Ways.getD ((IntKind.wrap .i64 ((p_0.Ways.length : Int) - 1)).toNat) d_Table) p_0.Name)).toNat) d_Idx).Stage)).getD k404 d_Table) (p_0.Ways.getD k404 d_Table)) (fun hb465 => ?_) (fun hb465 => ?_)
            ·have hb465p := f_s_l24SameCols hb465
             obtain ⟨eb466, eo466, ec466, eA466, eS466, ebl466, el466, eR466, eC466⟩ := RdS.atD hf445 d_Table (i := k404) (by first | omega | assumption)
             obtain ⟨A467, c467, A468, c468, rfl, h467, h468⟩ := eR466
             have eC466 : Cells w436 eb466 (eo466 + k404 * 3) [.string (bs ((p_0.Ways.getD k404 d_Table).Name)), .slice A467 (((p_0.Ways.getD k404 d_Table).Cols).length) c467, .slice A468 (((p_0.Ways.getD k404 d_Table).Idxs).length) c468] := eC466
             obtain ⟨eb470, eo470, ec470, eA470, eS470, ebl470, el470, eR470, eC470⟩ := RdS.atD hf448 d_Table (i := k404) (by first | omega | assumption)
             obtain ⟨A471, c471, A472, c472, rfl, h471, h472⟩ := eR470
             have eC470 : Cells w436 eb470 (eo470 + k404 * 3) [.string (bs (((s_l24Way (p_0.Ways.getD 0 d_Table) p_0.Name ((((p_0.Ways.getD ((IntKind.wrap .i64 ((p_0.Ways.length : Int) - 1)).toNat) d_Table).Idxs).getD (((s_l24Idx (p_0.Ways.getD ((IntKind.wrap .i64 ((p_0.Ways.length : Int) - 1)).toNat) d_Table) p_0.Name)).toNat) d_Idx).Stage)).getD k404 d_Table).Name)), .slice A471 ((((s_l24Way (p_0.Ways.getD 0 d_Table) p_0.Name ((((p_0.Ways.getD ((IntKind.wrap .i64 ((p_0.Ways.length : Int) - 1)).toNat) d_Table).Idxs).getD (((s_l24Idx (p_0.Ways.getD ((IntKind.wrap .i64 ((p_0.Ways.length : Int) - 1)).toNat) d_Table) p_0.Name)).toNat) d_Idx).Stage)).getD k404 d_Table).Cols).length) c471, .slice A472 ((((s_l24Way (p_0.Ways.getD 0 d_Table) p_0.Name ((((p_0.Ways.getD ((IntKind.wrap .i64 ((p_0.Ways.length : Int) - 1)).toNat) d_Table).Idxs).getD (((s_l24Idx (p_0.Ways.getD ((IntKind.wrap .i64 ((p_0.Ways.length : Int) - 1)).toNat) d_Table) p_0.Name)).toNat) d_Idx).Stage)).getD k404 d_Table).Idxs).length) c472] := eC470
             refine CW.drawsI 33 (vgetI [DetI (.pointer (some ⟨b9, 0 + 1, none⟩)), DetI (.slice A1 p_0.Ways.length c1), DetI (.int .i64 ((k404 : Int))), DetI (.pointer (some ⟨eb466, eo466 + k404 * 3, none⟩)), DetI (.agg #[.string (bs ((p_0.Ways.getD k404 d_Table).Name)), .slice A467 (((p_0.Ways.getD k404 d_Table).Cols).length) c467, .slice A468 (((p_0.Ways.getD k404 d_Table).Idxs).length) c468]), DetI (.bool ((s_GoodTable (p_0.Ways.getD k404 d_Table)))), DetI (.bool (!(s_GoodTable (p_0.Ways.getD k404 d_Table)))), DetI (.bool (!(s_GoodTable (p_0.Ways.getD k404 d_Table)))), DetI (.slice A257_399 ((s_l24Way (p_0.Ways.getD 0 d_Table) p_0.Name ((((p_0.Ways.getD ((IntKind.wrap .i64 ((p_0.Ways.length : Int) - 1)).toNat) d_Table).Idxs).getD (((s_l24Idx (p_0.Ways.getD ((IntKind.wrap .i64 ((p_0.Ways.length : Int) - 1)).toNat) d_Table) p_0.Name)).toNat) d_Idx).Stage)).length) c257_400), DetI (.int .i64 ((k404 : Int))), DetI (.pointer (some ⟨eb470, eo470 + k404 * 3, none⟩)), DetI (.agg #[.string (bs (((s_l24Way (p_0.Ways.getD 0 d_Table) p_0.Name ((((p_0.Ways.getD ((IntKind.wrap .i64 ((p_0.Ways.length : Int) - 1)).toNat) d_Table).Idxs).getD (((s_l24Idx (p_0.Ways.getD ((IntKind.wrap .i64 ((p_0.Ways.length : Int) - 1)).toNat) d_Table) p_0.Name)).toNat) d_Idx).Stage)).getD k404 d_Table).Name)), .slice A471 ((((s_l24Way (p_0.Ways.getD 0 d_Table) p_0.Name ((((p_0.Ways.getD ((IntKind.wrap .i64 ((p_0.Ways.length : Int) - 1)).toNat) d_Table).Idxs).getD (((s_l24Idx (p_0.Ways.getD ((IntKind.wrap .i64 ((p_0.Ways.length : Int) - 1)).toNat) d_Table) p_0.Name)).toNat) d_Idx).Stage)).getD k404 d_Table).Cols).length) c471, .slice A472 ((((s_l24Way (p_0.Ways.getD 0 d_Table) p_0.Name ((((p_0.Ways.getD ((IntKind.wrap .i64 ((p_0.Ways.length : Int) - 1)).toNat) d_Table).Idxs).getD (((s_l24Idx (p_0.Ways.getD ((IntKind.wrap .i64 ((p_0.Ways.length : Int) - 1)).toNat) d_Table) p_0.Name)).toNat) d_Idx).Stage)).getD k404 d_Table).Idxs).length) c472]), DetI (.pointer (some ⟨b9, 0 + 1, none⟩)), DetI (.slice A1 p_0.Ways.length c1), DetI (.int .i64 ((k404 : Int))), DetI (.pointer (some ⟨eb466, eo466 + k404 * 3, none⟩)), DetI (.agg #[.string (bs ((p_0.Ways.getD k404 d_Table).Name)), .slice A467 (((p_0.Ways.getD k404 d_Table).Cols).length) c467, .slice A468 (((p_0.Ways.getD k404 d_Table).Idxs).length) c468]), DetI (.bool ((s_l24SameCols ((s_l24Way (p_0.Ways.getD 0 d_Table) p_0.Name ((((p_0.Ways.getD ((IntKind.wrap .i64 ((p_0.Ways.length : Int) - 1)).toNat) d_Table).Idxs).getD (((s_l24Idx (p_0.Ways.getD ((IntKind.wrap .i64 ((p_0.Ways.length : Int) - 1)).toNat) d_Table) p_0.Name)).toNat) d_Idx).Stage)).getD k404 d_Table) (p_0.Ways.getD k404 d_Table)))), DetI (.bool (!(s_l24SameCols ((s_l24Way (p_0.Ways.getD 0 d_Table) p_0.Name ((((p_0.Ways.getD ((IntKind.wrap .i64 ((p_0.Ways.length : Int) - 1)).toNat) d_Table).Idxs).getD (((s_l24Idx (p_0.Ways.getD ((IntKind.wrap .i64 ((p_0.Ways.length : Int) - 1)).toNat) d_Table) p_0.Name)).toNat) d_Idx).Stage)).getD k404 d_Table) (p_0.Ways.getD k404 d_Table)))), DetI (.bool (!(s_l24SameCols ((s_l24Way (p_0.Ways.getD 0 d_Table) p_0.Name ((((p_0.Ways.getD ((IntKind.wrap .i64 ((p_0.Ways.length : Int) - 1)).toNat) d_Table).Idxs).getD (((s_l24Idx (p_0.Ways.getD ((IntKind.wrap .i64 ((p_0.Ways.length : Int) - 1)).toNat) d_Table) p_0.Name)).toNat) d_Idx).Stage)).getD k404 d_Table) (p_0.Ways.getD k404 d_Table)))), DetI (.bool (!(s_l24SameCols ((s_l24Way (p_0.Ways.getD 0 d_Table) p_0.Name ((((p_0.Ways.getD ((IntKind.wrap .i64 ((p_0.Ways.length : Int) - 1)).toNat) d_Table).Idxs).getD (((s_l24Idx (p_0.Ways.getD ((IntKind.wrap .i64 ((p_0.Ways.length : Int) - 1)).toNat) d_Table) p_0.Name)).toNat) d_Idx).Stage)).getD k404 d_Table) (p_0.Ways.getD k404 d_Table)))), DetI (.slice A257_399 ((s_l24Way (p_0.Ways.getD 0 d_Table) p_0.Name ((((p_0.Ways.getD ((IntKind.wrap .i64 ((p_0.Ways.length : Int) - 1)).toNat) d_Table).Idxs).getD (((s_l24Idx (p_0.Ways.getD ((IntKind.wrap .i64 ((p_0.Ways.length : Int) - 1)).toNat) d_Table) p_0.Name)).toNat) d_Idx).Stage)).length) c257_400), DetI (.int .i64 ((k404 : Int))), DetI (.pointer (some ⟨eb470, eo470 + k404 * 3, none⟩)), DetI (.agg #[.string (bs (((s_l24Way (p_0.Ways.getD 0 d_Table) p_0.Name ((((p_0.Ways.getD ((IntKind.wrap .i64 ((p_0.Ways.length : Int) - 1)).toNat) d_Table).Idxs).getD (((s_l24Idx (p_0.Ways.getD ((IntKind.wrap .i64 ((p_0.Ways.length : Int) - 1)).toNat) d_Table) p_0.Name)).toNat) d_Idx).Stage)).getD k404 d_Table).Name)), .slice A471 ((((s_l24Way (p_0.Ways.getD 0 d_Table) p_0.Name ((((p_0.Ways.getD ((IntKind.wrap .i64 ((p_0.Ways.length : Int) - 1)).toNat) d_Table).Idxs).getD (((s_l24Idx (p_0.Ways.getD ((IntKind.wrap .i64 ((p_0.Ways.length : Int) - 1)).toNat) d_Table) p_0.Name)).toNat) d_Idx).Stage)).getD k404 d_Table).Cols).length) c471, .slice A472 ((((s_l24Way (p_0.Ways.getD 0 d_Table) p_0.Name ((((p_0.Ways.getD ((IntKind.wrap .i64 ((p_0.Ways.length : Int) - 1)).toNat) d_Table).Idxs).getD (((s_l24Idx (p_0.Ways.getD ((IntKind.wrap .i64 ((p_0.Ways.length : Int) - 1)).toNat) d_Table) p_0.Name)).toNat) d_Idx).Stage)).getD k404 d_Table).Idxs).length) c472]), DetI (.pointer (some ⟨b9, 0 + 1, none⟩)), DetI (.slice A1 p_0.Ways.length c1), DetI (.int .i64 ((k404 : Int))), DetI (.pointer (some ⟨eb466, eo466 + k404 * 3, none⟩)), DetI (.agg #[.string (bs ((p_0.Ways.getD k404 d_Table).Name)), .slice A467 (((p_0.Ways.getD k404 d_Table).Cols).length) c467, .slice A468 (((p_0.Ways.getD k404 d_Table).Idxs).length) c468]), DetI (.int .i64 ((s_l24Far ((s_l24Way (p_0.Ways.getD 0 d_Table) p_0.Name ((((p_0.Ways.getD ((IntKind.wrap .i64 ((p_0.Ways.length : Int) - 1)).toNat) d_Table).Idxs).getD (((s_l24Idx (p_0.Ways.getD ((IntKind.wrap .i64 ((p_0.Ways.length : Int) - 1)).toNat) d_Table) p_0.Name)).toNat) d_Idx).Stage)).getD k404 d_Table) (p_0.Ways.getD k404 d_Table)))), DetI (.bool (!(decide ((s_l24Far ((s_l24Way (p_0.Ways.getD 0 d_Table) p_0.Name ((((p_0.Ways.getD ((IntKind.wrap .i64 ((p_0.Ways.length : Int) - 1)).toNat) d_Table).Idxs).getD (((s_l24Idx (p_0.Ways.getD ((IntKind.wrap .i64 ((p_0.Ways.length : Int) - 1)).toNat) d_Table) p_0.Name)).toNat) d_Idx).Stage)).getD k404 d_Table) (p_0.Ways.getD k404 d_Table)) = 0)))), DetI (.bool (!(decide ((s_l24Far ((s_l24Way (p_0.Ways.getD 0 d_Table) p_0.Name ((((p_0.Ways.getD ((IntKind.wrap .i64 ((p_0.Ways.length : Int) - 1)).toNat) d_Table).Idxs).getD (((s_l24Idx (p_0.Ways.getD ((IntKind.wrap .i64 ((p_0.Ways.length : Int) - 1)).toNat) d_Table) p_0.Name)).toNat) d_Idx).Stage)).getD k404 d_Table) (p_0.Ways.getD k404 d_Table)) = 0))))]) Tryz.follows rfl rfl rfl rfl rfl rfl (vgetI_stable ⟨StableI.det _, StableI.det _, StableI.det _, StableI.det _, StableI.det _, StableI.det _, StableI.det _, StableI.det _, StableI.det _, StableI.det _, StableI.det _, StableI.det _, StableI.det _, StableI.det _, StableI.det _, StableI.det _, StableI.det _, StableI.det _, StableI.det _, StableI.det _, StableI.det _, StableI.det _, StableI.det _, StableI.det _, StableI.det _, StableI.det _, StableI.det _, StableI.det _, StableI.det _, StableI.det _, StableI.det _, StableI.det _, StableI.det _, trivial⟩) ⟨?_, ?_, ?_, ?_, ?_, ?_, ?_, ?_, ?_, ?_, ?_, ?_, ?_, ?_, ?_, ?_, ?_, ?_, ?_, ?_, ?_, ?_, ?_, ?_, ?_, ?_, ?_, ?_, ?_, ?_, ?_, ?_, ?_, trivial⟩ ?_
             ·exact fun _ _ h => os rfl ((yl_fieldAddr Tryz.fd40_1 rfl (h.old 1 _ rfl rfl) kI))
             ·exact fun _ _ h => os rfl ((yl_load1 Tryz.ty37 rfl (h.dt 0 74 rfl rfl rfl) (((Box.ex hf444 h.ex).cell 1).trans rfl) kI))
             ·exact fun _ _ h => os rfl ((yl_move rfl (h.old 5 _ rfl rfl) kI))
             ·intro L491 w492 hi493
              have hE494 := hi493.ex
              have hE494z := Ex.size hE494
              exact os rfl ((yl_indexAddrN Tryz.un37 Tryz.ty95 rfl (hi493.dt 1 75 rfl rfl rfl) (hi493.dt 2 76 rfl rfl rfl) eA466 (by first | omega | assumption | (simp only [IntKind.wrap_i64] at *; omega)) kI))
             ·exact fun _ _ h => os rfl ((yl_loadN (cs := [.string (bs ((p_0.Ways.getD k404 d_Table).Name)), .slice A467 (((p_0.Ways.getD k404 d_Table).Cols).length) c467, .slice A468 (((p_0.Ways.getD k404 d_Table).Idxs).length) c468]) Tryz.ty95 rfl (h.dt 3 77 rfl rfl rfl) (Cells.ex eC466 h.ex) rfl kI))
             ·intro L503 w504 hi505
              have hE506 := hi505.ex
              refine OpR.op' rfl (yl_call Tryz.en88 rfl (opvs_cons (hi505.dt 4 78 rfl rfl rfl) opvs_nil) (Cal.mono (c_s_GoodTable (p_0.Ways.getD k404 d_Table) (RdS.up (RdS.ex good_Str h467 hE506) good_Str) (RdS.up (RdS.ex good_Idx h468 hE506) good_Idx) (okL.getD o4.2.1 ok_d_Table _)) ?_))
              rintro v511 w510 ⟨rfl, hE512⟩
              exact ⟨rfl, hE512⟩
             ·exact fun _ _ h => os rfl ((yl_not rfl (h.dt 5 79 rfl rfl rfl) kI))
             ·exact fun _ _ h => os rfl ((yl_move rfl (h.dt 6 80 rfl rfl rfl) kI))
             ·exact fun _ _ h => OpR.want rfl rfl (h.dt 7 81 rfl rfl rfl) (not_t hb456) (Yl.sameI (yl_move rfl (h.old 4 _ rfl rfl) kI))
             ·exact fun _ _ h => OpR.want rfl rfl (h.dt 7 81 rfl rfl rfl) (not_t hb456) (Yl.sameI (yl_move rfl (h.old 5 _ rfl rfl) kI))
             ·intro L535 w536 hi537
              have hE538 := hi537.ex
              have hE538z := Ex.size hE538
              exact OpR.want rfl rfl (hi537.dt 7 81 rfl rfl rfl) (not_t hb456) (Yl.sameI (yl_indexAddrN Tryz.un37 Tryz.ty95 rfl (hi537.dt 8 82 rfl rfl rfl) (hi537.dt 9 83 rfl rfl rfl) eA470 (by first | omega | assumption | (simp only [IntKind.wrap_i64] at *; omega)) kI))
             ·exact fun _ _ h => OpR.want rfl rfl (h.dt 7 81 rfl rfl rfl) (not_t hb456) (Yl.sameI (yl_loadN (cs := [.string (bs (((s_l24Way (p_0.Ways.getD 0 d_Table) p_0.Name ((((p_0.Ways.getD ((IntKind.wrap .i64 ((p_0.Ways.length : Int) - 1)).toNat) d_Table).Idxs).getD (((s_l24Idx (p_0.Ways.getD ((IntKind.wrap .i64 ((p_0.Ways.length : Int) - 1)).toNat) d_Table) p_0.Name)).toNat) d_Idx).Stage)).getD k404 d_Table).Name)), .slice A471 ((((s_l24Way (p_0.Ways.getD 0 d_Table) p_0.Name ((((p_0.Ways.getD ((IntKind.wrap .i64 ((p_0.Ways.length : Int) - 1)).toNat) d_Table).Idxs).getD (((s_l24Idx (p_0.Ways.getD ((IntKind.wrap .i64 ((p_0.Ways.length : Int) - 1)).toNat) d_Table) p_0.Name)).toNat) d_Idx).Stage)).getD k404 d_Table).Cols).length) c471, .slice A472 ((((s_l24Way (p_0.Ways.getD 0 d_Table) p_0.Name ((((p_0.Ways.getD ((IntKind.wrap .i64 ((p_0.Ways.length : Int) - 1)).toNat) d_Table).Idxs).getD (((s_l24Idx (p_0.Ways.getD ((IntKind.wrap .i64 ((p_0.Ways.length : Int) - 1)).toNat) d_Table) p_0.Name)).toNat) d_Idx).Stage)).getD k404 d_Table).Idxs).length) c472]) Tryz.ty95 rfl (h.dt 10 84 rfl rfl rfl) (Cells.ex eC470 h.ex) rfl kI))
             ·exact fun _ _ h => OpR.want rfl rfl (h.dt 7 81 rfl rfl rfl) (not_t hb456) (Yl.sameI (yl_fieldAddr Tryz.fd40_1 rfl (h.old 1 _ rfl rfl) kI))
             ·exact fun _ _ h => OpR.want rfl rfl (h.dt 7 81 rfl rfl rfl) (not_t hb456) (Yl.sameI (yl_load1 Tryz.ty37 rfl (h.dt 12 86 rfl rfl rfl) (((Box.ex hf444 h.ex).cell 1).trans rfl) kI))
             ·exact fun _ _ h => OpR.want rfl rfl (h.dt 7 81 rfl rfl rfl) (not_t hb456) (Yl.sameI (yl_move rfl (h.old 5 _ rfl rfl) kI))
             ·intro L568 w569 hi570
              have hE571 := hi570.ex
              have hE571z := Ex.size hE571
              exact OpR.want rfl rfl (hi570.dt 7 81 rfl rfl rfl) (not_t hb456) (Yl.sameI (yl_indexAddrN Tryz.un37 Tryz.ty95 rfl (hi570.dt 13 87 rfl rfl rfl) (hi570.dt 14 88 rfl rfl rfl) eA466 (by first | omega | assumption | (simp only [IntKind.wrap_i64] at *; omega)) kI))
             ·exact fun _ _ h => OpR.want rfl rfl (h.dt 7 81 rfl rfl rfl) (not_t hb456) (Yl.sameI (yl_loadN (cs := [.string (bs ((p_0.Ways.getD k404 d_Table).Name)), .slice A467 (((p_0.Ways.getD k404 d_Table).Cols).length) c467, .slice A468 (((p_0.Ways.getD k404 d_Table).Idxs).length) c468]) Tryz.ty95 rfl (h.dt 15 89 rfl rfl rfl) (Cells.ex eC466 h.ex) rfl kI))
             ·intro L582 w583 hi584
              have hE585 := hi584.ex
              refine OpR.want rfl rfl (hi584.dt 7 81 rfl rfl rfl) (not_t hb456) (yl_call Tryz.en91 rfl (opvs_cons (hi584.dt 11 85 rfl rfl rfl) (opvs_cons (hi584.dt 16 90 rfl rfl rfl) opvs_nil)) (Cal.mono (c_s_l24SameCols ((s_l24Way (p_0.Ways.getD 0 d_Table) p_0.Name ((((p_0.Ways.getD ((IntKind.wrap .i64 ((p_0.Ways.length : Int) - 1)).toNat) d_Table).Idxs).getD (((s_l24Idx (p_0.Ways.getD ((IntKind.wrap .i64 ((p_0.Ways.length : Int) - 1)).toNat) d_Table) p_0.Name)).toNat) d_Idx).Stage)).getD k404 d_Table) (p_0.Ways.getD k404 d_Table) (RdS.up (RdS.ex good_Str h471 hE585) good_Str) (RdS.up (RdS.ex good_Idx h472 hE585) good_Idx) (RdS.up (RdS.ex good_Str h467 hE585) good_Str) (RdS.up (RdS.ex good_Idx h468 hE585) good_Idx) (okL.getD h396 ok_d_Table _) (okL.getD o4.2.1 ok_d_Table _)) ?_))
              rintro v594 w593 ⟨rfl, hE595⟩
              exact ⟨rfl, hE595⟩
             ·exact fun _ _ h => OpR.want rfl rfl (h.dt 7 81 rfl rfl rfl) (not_t hb456) (Yl.sameI (yl_not rfl (h.dt 17 91 rfl rfl rfl) kI))
             ·exact fun _ _ h => os rfl ((yl_pick_f rfl (h.dt 7 81 rfl rfl rfl) (not_t hb456) (h.dt 18 92 rfl rfl rfl) kI))
             ·exact fun _ _ h => os rfl ((yl_move rfl (h.dt 19 93 rfl rfl rfl) kI))
             ·exact fun _ _ h => OpR.want rfl rfl (h.dt 20 94 rfl rfl rfl) (not_t hb465) (Yl.sameI (yl_move rfl (h.old 4 _ rfl rfl) kI))
             ·exact fun _ _ h => OpR.want rfl rfl (h.dt 20 94 rfl rfl rfl) (not_t hb465) (Yl.sameI (yl_move rfl (h.old 5 _ rfl rfl) kI))
             ·intro L625 w626 hi627
              have hE628 := hi627.ex
              have hE628z := Ex.size hE628
              exact OpR.want rfl rfl (hi627.dt 20 94 rfl rfl rfl) (not_t hb465) (Yl.sameI (yl_indexAddrN Tryz.un37 Tryz.ty95 rfl (hi627.dt 21 95 rfl rfl rfl) (hi627.dt 22 96 rfl rfl rfl) eA470 (by first | omega | assumption | (simp only [IntKind.wrap_i64] at *; omega)) kI))
             ·exact fun _ _ h => OpR.want rfl rfl (h.dt 20 94 rfl rfl rfl) (not_t hb465) (Yl.sameI (yl_loadN (cs := [.string (bs (((s_l24Way (p_0.Ways.getD 0 d_Table) p_0.Name ((((p_0.Ways.getD ((IntKind.wrap .i64 ((p_0.Ways.length : Int) - 1)).toNat) d_Table).Idxs).getD (((s_l24Idx (p_0.Ways.getD ((IntKind.wrap .i64 ((p_0.Ways.length : Int) - 1)).toNat) d_Table) p_0.Name)).toNat) d_Idx).Stage)).getD k404 d_Table).Name)), .slice A471 ((((s_l24Way (p_0.Ways.getD 0 d_Table) p_0.Name ((((p_0.Ways.getD ((IntKind.wrap .i64 ((p_0.Ways.length : Int) - 1)).toNat) d_Table).Idxs).getD (((s_l24Idx (p_0.Ways.getD ((IntKind.wrap .i64 ((p_0.Ways.length : Int) - 1)).toNat) d_Table) p_0.Name)).toNat) d_Idx).Stage)).getD k404 d_Table).Cols).length) c471, .slice A472 ((((s_l24Way (p_0.Ways.getD 0 d_Table) p_0.Name ((((p_0.Ways.getD ((IntKind.wrap .i64 ((p_0.Ways.length : Int) - 1)).toNat) d_Table).Idxs).getD (((s_l24Idx (p_0.Ways.getD ((IntKind.wrap .i64 ((p_0.Ways.length : Int) - 1)).toNat) d_Table) p_0.Name)).toNat) d_Idx).Stage)).getD k404 d_Table).Idxs).length) c472]) Tryz.ty95 rfl (h.dt 23 97 rfl rfl rfl) (Cells.ex eC470 h.ex) rfl kI))
             ·exact fun _ _ h => OpR.want rfl rfl (h.dt 20 94 rfl rfl rfl) (not_t hb465) (Yl.sameI (yl_fieldAddr Tryz.fd40_1 rfl (h.old 1 _ rfl rfl) kI))
             ·exact fun _ _ h => OpR.want rfl rfl (h.dt 20 94 rfl rfl rfl) (not_t hb465) (Yl.sameI (yl_load1 Tryz.ty37 rfl (h.dt 25 99 rfl rfl rfl) (((Box.ex hf444 h.ex).cell 1).trans rfl) kI))
             ·exact fun _ _ h => OpR.want rfl rfl (h.dt 20 94 rfl rfl rfl) (not_t hb465) (Yl.sameI (yl_move rfl (h.old 5 _ rfl rfl) kI))
             ·intro L658 w659 hi660
              have hE661 := hi660.ex
              have hE661z := Ex.size hE661
              exact OpR.want rfl rfl (hi660.dt 20 94 rfl rfl rfl) (not_t hb465) (Yl.sameI (yl_indexAddrN Tryz.un37 Tryz.ty95 rfl (hi660.dt 26 100 rfl rfl rfl) (hi660.dt 27 101 rfl rfl rfl) eA466 (by first | omega | assumption | (simp only [IntKind.wrap_i64] at *; omega)) kI))
             ·exact fun _ _ h => OpR.want rfl rfl (h.dt 20 94 rfl rfl rfl) (not_t hb465) (Yl.sameI (yl_loadN (cs := [.string (bs ((p_0.Ways.getD k404 d_Table).Name)), .slice A467 (((p_0.Ways.getD k404 d_Table).Cols).length) c467, .slice A468 (((p_0.Ways.getD k404 d_Table).Idxs).length) c468]) Tryz.ty95 rfl (h.dt 28 102 rfl rfl rfl) (Cells.ex eC466 h.ex) rfl kI))
             ·intro L672 w673 hi674
              have hE675 := hi674.ex
              have hE675z := Ex.size hE675
              refine OpR.want rfl rfl (hi674.dt 20 94 rfl rfl rfl) (not_t hb465) (yl_call Tryz.en92 rfl (opvs_cons (hi674.dt 24 98 rfl rfl rfl) (opvs_cons (hi674.dt 29 103 rfl rfl rfl) opvs_nil)) (Cal.mono (c_s_l24Far ((s_l24Way (p_0.Ways.getD 0 d_Table) p_0.Name ((((p_0.Ways.getD ((IntKind.wrap .i64 ((p_0.Ways.length : Int) - 1)).toNat) d_Table).Idxs).getD (((s_l24Idx (p_0.Ways.getD ((IntKind.wrap .i64 ((p_0.Ways.length : Int) - 1)).toNat) d_Table) p_0.Name)).toNat) d_Idx).Stage)).getD k404 d_Table) (p_0.Ways.getD k404 d_Table) (RdS.up (RdS.ex good_Str h471 hE675) good_Str) (RdS.up (RdS.ex good_Idx h472 hE675) good_Idx) (RdS.up (RdS.ex good_Str h467 hE675) good_Str) (RdS.up (RdS.ex good_Idx h468 hE675) good_Idx) (okL.getD h396 ok_d_Table _) (okL.getD o4.2.1 ok_d_Table _) (by first | omega | assumption | (simp only [IntKind.wrap_i64] at *; omega))) ?_))
              rintro v684 w683 ⟨rfl, hE685⟩
              exact ⟨rfl, hE685⟩
             ·exact fun _ _ h => OpR.want rfl rfl (h.dt 20 94 rfl rfl rfl) (not_t hb465) (Yl.sameI (yl_neq rfl (h.dt 30 104 rfl rfl rfl) rfl kI))
             ·exact fun _ _ h => os rfl ((yl_pick_f rfl (h.dt 20 94 rfl rfl rfl) (not_t hb465) (h.dt 31 105 rfl rfl rfl) kI))
             ·intro fl701 fh702 L698 w699 hp700
              have hE703 := hp700.ex
              have hE703z := Ex.size hE703
              refine SeqR.done (tn (CW.sub (Sub.cons (d := 1) (hp700.old 1 _ rfl rfl) (Sub.cons (d := 4) (hp700.old 4 _ rfl rfl) (Sub.cons (d := 70) (hp700.old 70 _ rfl rfl) (Sub.cons (d := 71) (hp700.old 71 _ rfl rfl) (Sub.cons (d := 82) (hp700.nt 8 82 rfl rfl rfl) (Sub.cons (d := 83) (hp700.nt 9 83 rfl rfl rfl) (Sub.cons (d := 84) (hp700.nt 10 84 rfl rfl rfl) (Sub.cons (d := 85) (hp700.nt 11 85 rfl rfl rfl) (Sub.cons (d := 86) (hp700.nt 12 86 rfl rfl rfl) (Sub.cons (d := 87) (hp700.nt 13 87 rfl rfl rfl) (Sub.cons (d := 88) (hp700.nt 14 88 rfl rfl rfl) (Sub.cons (d := 89) (hp700.nt 15 89 rfl rfl rfl) (Sub.cons (d := 90) (hp700.nt 16 90 rfl rfl rfl) (Sub.cons (d := 91) (hp700.nt 17 91 rfl rfl rfl) (Sub.cons (d := 92) (hp700.nt 18 92 rfl rfl rfl) (Sub.cons (d := 95) (hp700.nt 21 95 rfl rfl rfl) (Sub.cons (d := 96) (hp700.nt 22 96 rfl rfl rfl) (Sub.cons (d := 97) (hp700.nt 23 97 rfl rfl rfl) (Sub.cons (d := 98) (hp700.nt 24 98 rfl rfl rfl) (Sub.cons (d := 99) (hp700.nt 25 99 rfl rfl rfl) (Sub.cons (d := 100) (hp700.nt 26 100 rfl rfl rfl) (Sub.cons (d := 101) (hp700.nt 27 101 rfl rfl rfl) (Sub.cons (d := 102) (hp700.nt 28 102 rfl rfl rfl) (Sub.cons (d := 103) (hp700.nt 29 103 rfl rfl rfl) (Sub.cons (d := 104) (hp700.nt 30 104 rfl rfl rfl) (Sub.cons (d := 105) (hp700.nt 31 105 rfl rfl rfl) (Sub.cons (d := 106) (hp700.nt 32 106 rfl rfl rfl) (Sub.nil _)))))))))))))))))))))))))))) (bcase (decide ((s_l24Far ((s_l24Way (p_0.Ways.getD 0 d_Table) p_0.Name ((((p_0.Ways.getD ((IntKind.wrap .i64 ((p_0.Ways.length : Int) - 1)).toNat) d_Table).Idxs).getD (((s_l24Idx (p_0.Ways.getD ((IntKind.wrap .i64 ((p_0.Ways.length : Int) - 1)).toNat) d_Table) p_0.Name)).toNat) d_Idx).Stage)).getD k404 d_Table) (p_0.Ways.getD k404 d_Table)) = 0)) (fun hb731 => ?_) (fun hb731 => ?_))))
              ·have hb731p := dec_t hb731
               refine CW.cond_f rfl (not_t hb731) (CW.skip (bn (tn (CW.region (sd rfl (yl_inc rfl rfl rfl (by omega) (sd rfl (yl_move rfl rfl (SeqR.done (tn ?_))))))))))
               have hB732 : B_s_l27Ways_0 p_0 k404 () = .cont () := by simp only [B_s_l27Ways_0, hb16, hb23, hb191, hb216, hb227, hb403, hb456, hb465, hb731, cond_true, cond_false, loopE_done, loopE_ret]
               exact ⟨(s_l24Way (p_0.Ways.getD 0 d_Table) p_0.Name ((((p_0.Ways.getD ((IntKind.wrap .i64 ((p_0.Ways.length : Int) - 1)).toNat) d_Table).Idxs).getD (((s_l24Idx (p_0.Ways.getD ((IntKind.wrap .i64 ((p_0.Ways.length : Int) - 1)).toNat) d_Table) p_0.Name)).toNat) d_Idx).Stage)).length - (k404 + 1), by omega, k404 + 1, rfl, hlt451, (by omega), rfl, rfl, rfl, rfl, (Box.ex hf444 hE703), (RdS.ex good_Table hf445 hE703), (RdS.ex good_Int hf446 hE703), (RdS.ex good_Write hf447 hE703), (RdS.ex good_Table hf448 hE703), (Ex.trans hf449 hE703), (loopM.cont hlt451 hB732).symm.trans hI438⟩
              ·have hb731p := dec_f hb731
               refine CW.cond_t rfl (not_f hb731) (CW.seq (CW.region (sd rfl (yl_assign rfl rfl (SeqR.done (tn (CW.ret (br (tr ?_)))))))))
               refine tr ?_
               have hB740 : B_s_l27Ways_0 p_0 k404 () = .ret false := by simp only [B_s_l27Ways_0, hb16, hb23, hb191, hb216, hb227, hb403, hb456, hb465, hb731, cond_true, cond_false, loopE_done, loopE_ret]
               have hL739 : loopM (B_s_l27Ways_0 p_0) ((s_l24Way (p_0.Ways.getD 0 d_Table) p_0.Name ((((p_0.Ways.getD ((IntKind.wrap .i64 ((p_0.Ways.length : Int) - 1)).toNat) d_Table).Idxs).getD (((s_l24Idx (p_0.Ways.getD ((IntKind.wrap .i64 ((p_0.Ways.length : Int) - 1)).toNat) d_Table) p_0.Name)).toNat) d_Idx).Stage)).length - 0) 0 () = .ret false := hI438.symm.trans (loopM.ret hlt451 hB740)
               refine br (tr (rr rfl (.cons rfl .nil) ?_))
               have hM741 : (s_l27Ways p_0) = (false) := by simp only [s_l27Ways, hb16, hb23, hb191, hb216, hb227, hb403, hb456, hb465, hb731, hL739, cond_true, cond_false, loopE_done, loopE_ret]
               rw [hM741]
               exact ⟨rfl, (Ex.trans hf449 hE703)⟩
            ·obtain ⟨eb743, eo743, ec743, eA743, eS743, ebl743, el743, eR743, eC743⟩ := RdS.atD hf445 d_Table (i := k404) (by first | omega | assumption)
             obtain ⟨A744, c744, A745, c745, rfl, h744, h745⟩ := eR743
             have eC743 : Cells w436 eb743 (eo743 + k404 * 3) [.string (bs ((p_0.Ways.getD k404 d_Table).Name)), .slice A744 (((p_0.Ways.getD k404 d_Table).Cols).length) c744, .slice A745 (((p_0.Ways.getD k404 d_Table).Idxs).length) c745] := eC743
             obtain ⟨eb747, eo747, ec747, eA747, eS747, ebl747, el747, eR747, eC747⟩ := RdS.atD hf448 d_Table (i := k404) (by first | omega | assumption)
             obtain ⟨A748, c748, A749, c749, rfl, h748, h749⟩ := eR747
             have eC747 : Cells w436 eb747 (eo747 + k404 * 3) [.string (bs (((s_l24Way (p_0.Ways.getD 0 d_Table) p_0.Name ((((p_0.Ways.getD ((IntKind.wrap .i64 ((p_0.Ways.length : Int) - 1)).toNat) d_Table).Idxs).getD (((s_l24Idx (p_0.Ways.getD ((IntKind.wrap .i64 ((p_0.Ways.length : Int) - 1)).toNat) d_Table) p_0.Name)).toNat) d_Idx).Stage)).getD k404 d_Table).Name)), .slice A748 ((((s_l24Way (p_0.Ways.getD 0 d_Table) p_0.Name ((((p_0.Ways.getD ((IntKind.wrap .i64 ((p_0.Ways.length : Int) - 1)).toNat) d_Table).Idxs).getD (((s_l24Idx (p_0.Ways.getD ((IntKind.wrap .i64 ((p_0.Ways.length : Int) - 1)).toNat) d_Table) p_0.Name)).toNat) d_Idx).Stage)).getD k404 d_Table).Cols).length) c748, .slice A749 ((((s_l24Way (p_0.Ways.getD 0 d_Table) p_0.Name ((((p_0.Ways.getD ((IntKind.wrap .i64 ((p_0.Ways.length : Int) - 1)).toNat) d_Table).Idxs).getD (((s_l24Idx (p_0.Ways.getD ((IntKind.wrap .i64 ((p_0.Ways.length : Int) - 1)).toNat) d_Table) p_0.Name)).toNat) d_Idx).Stage)).getD k404 d_Table).Idxs).length) c749] := eC747
             refine CW.drawsI 33 (vgetI [DetI (.pointer (some ⟨b9, 0 + 1, none⟩)), DetI (.slice A1 p_0.Ways.length c1), DetI (.int .i64 ((k404 : Int))), DetI (.pointer (some ⟨eb743, eo743 + k404 * 3, none⟩)), DetI (.agg #[.string (bs ((p_0.Ways.getD k404 d_Table).Name)), .slice A744 (((p_0.Ways.getD k404 d_Table).Cols).length) c744, .slice A745 (((p_0.Ways.getD k404 d_Table).Idxs).length) c745]), DetI (.bool ((s_GoodTable (p_0.Ways.getD k404 d_Table)))), DetI (.bool (!(s_GoodTable (p_0.Ways.getD k404 d_Table)))), DetI (.bool (!(s_GoodTable (p_0.Ways.getD k404 d_Table)))), DetI (.slice A257_399 ((s_l24Way (p_0.Ways.getD 0 d_Table) p_0.Name ((((p_0.Ways.getD ((IntKind.wrap .i64 ((p_0.Ways.length : Int) - 1)).toNat) d_Table).Idxs).getD (((s_l24Idx (p_0.Ways.getD ((IntKind.wrap .i64 ((p_0.Ways.length : Int) - 1)).toNat) d_Table) p_0.Name)).toNat) d_Idx).Stage)).length) c257_400), DetI (.int .i64 ((k404 : Int))), DetI (.pointer (some ⟨eb747, eo747 + k404 * 3, none⟩)), DetI (.agg #[.string (bs (((s_l24Way (p_0.Ways.getD 0 d_Table) p_0.Name ((((p_0.Ways.getD ((IntKind.wrap .i64 ((p_0.Ways.length : Int) - 1)).toNat) d_Table).Idxs).getD (((s_l24Idx (p_0.Ways.getD ((IntKind.wrap .i64 ((p_0.Ways.length : Int) - 1)).toNat) d_Table) p_0.Name)).toNat) d_Idx).Stage)).getD k404 d_Table).Name)), .slice A748 ((((s_l24Way (p_0.Ways.getD 0 d_Table) p_0.Name ((((p_0.Ways.getD ((IntKind.wrap .i64 ((p_0.Ways.length : Int) - 1)).toNat) d_Table).Idxs).getD (((s_l24Idx (p_0.Ways.getD ((IntKind.wrap .i64 ((p_0.Ways.length : Int) - 1)).toNat) d_Table) p_0.Name)).toNat) d_Idx).Stage)).getD k404 d_Table).Cols).length) c748, .slice A749 ((((s_l24Way (p_0.Ways.getD 0 d_Table) p_0.Name ((((p_0.Ways.getD ((IntKind.wrap .i64 ((p_0.Ways.length : Int) - 1)).toNat) d_Table).Idxs).getD (((s_l24Idx (p_0.Ways.getD ((IntKind.wrap .i64 ((p_0.Ways.length : Int) - 1)).toNat) d_Table) p_0.Name)).toNat) d_Idx).Stage)).getD k404 d_Table).Idxs).length) c749]), DetI (.pointer (some ⟨b9, 0 + 1, none⟩)), DetI (.slice A1 p_0.Ways.length c1), DetI (.int .i64 ((k404 : Int))), DetI (.pointer (some ⟨eb743, eo743 + k404 * 3, none⟩)), DetI (.agg #[.string (bs ((p_0.Ways.getD k404 d_Table).Name)), .slice A744 (((p_0.Ways.getD k404 d_Table).Cols).length) c744, .slice A745 (((p_0.Ways.getD k404 d_Table).Idxs).length) c745]), DetI (.bool ((s_l24SameCols ((s_l24Way (p_0.Ways.getD 0 d_Table) p_0.Name ((((p_0.Ways.getD ((IntKind.wrap .i64 ((p_0.Ways.length : Int) - 1)).toNat) d_Table).Idxs).getD (((s_l24Idx (p_0.Ways.getD ((IntKind.wrap .i64 ((p_0.Ways.length : Int) - 1)).toNat) d_Table) p_0.Name)).toNat) d_Idx).Stage)).getD k404 d_Table) (p_0.Ways.getD k404 d_Table)))), DetI (.bool (!(s_l24SameCols ((s_l24Way (p_0.Ways.getD 0 d_Table) p_0.Name ((((p_0.Ways.getD ((IntKind.wrap .i64 ((p_0.Ways.length : Int) - 1)).toNat) d_Table).Idxs).getD (((s_l24Idx (p_0.Ways.getD ((IntKind.wrap .i64 ((p_0.Ways.length : Int) - 1)).toNat) d_Table) p_0.Name)).toNat) d_Idx).Stage)).getD k404 d_Table) (p_0.Ways.getD k404 d_Table)))), DetI (.bool (!(s_l24SameCols ((s_l24Way (p_0.Ways.getD 0 d_Table) p_0.Name ((((p_0.Ways.getD ((IntKind.wrap .i64 ((p_0.Ways.length : Int) - 1)).toNat) d_Table).Idxs).getD (((s_l24Idx (p_0.Ways.getD ((IntKind.wrap .i64 ((p_0.Ways.length : Int) - 1)).toNat) d_Table) p_0.Name)).toNat) d_Idx).Stage)).getD k404 d_Table) (p_0.Ways.getD k404 d_Table)))), DetI (.bool (!(s_l24SameCols ((s_l24Way (p_0.Ways.getD 0 d_Table) p_0.Name ((((p_0.Ways.getD ((IntKind.wrap .i64 ((p_0.Ways.length : Int) - 1)).toNat) d_Table).Idxs).getD (((s_l24Idx (p_0.Ways.getD ((IntKind.wrap .i64 ((p_0.Ways.length : Int) - 1)).toNat) d_Table) p_0.Name)).toNat) d_Idx).Stage)).getD k404 d_Table) (p_0.Ways.getD k404 d_Table)))), DetI (undef), DetI (undef), DetI (undef), DetI (undef), DetI (undef), DetI (undef), DetI (undef), DetI (undef), DetI (undef), DetI (undef), DetI (undef), DetI (.bool (true))]) Tryz.follows rfl rfl rfl rfl rfl rfl (vgetI_stable ⟨StableI.det _, StableI.det _, StableI.det _, StableI.det _, StableI.det _, StableI.det _, StableI.det _, StableI.det _, StableI.det _, StableI.det _, StableI.det _, StableI.det _, StableI.det _, StableI.det _, StableI.det _, StableI.det _, StableI.det _, StableI.det _, StableI.det _, StableI.det _, StableI.det _, StableI.det _, StableI.det _, StableI.det _, StableI.det _, StableI.det _, StableI.det _, StableI.det _, StableI.det _, StableI.det _, StableI.det _, StableI.det _, StableI.det _, trivial⟩) ⟨?_, ?_, ?_, ?_, ?_, ?_, ?_, ?_, ?_, ?_, ?_, ?_, ?_, ?_, ?_, ?_, ?_, ?_, ?_, ?_, ?_, ?_, ?_, ?_, ?_, ?_, ?_, ?_, ?_, ?_, ?_, ?_, ?_, trivial⟩ ?_
             ·exact fun _ _ h => os rfl ((yl_fieldAddr Tryz.fd40_1 rfl (h.old 1 _ rfl rfl) kI))
             ·exact fun _ _ h => os rfl ((yl_load1 Tryz.ty37 rfl (h.dt 0 74 rfl rfl rfl) (((Box.ex hf444 h.ex).cell 1).trans rfl) kI))
             ·exact fun _ _ h => os rfl ((yl_move rfl (h.old 5 _ rfl rfl) kI))
             ·intro L767 w768 hi769
              have hE770 := hi769.ex
              have hE770z := Ex.size hE770
              exact os rfl ((yl_indexAddrN Tryz.un37 Tryz.ty95 rfl (hi769.dt 1 75 rfl rfl rfl) (hi769.dt 2 76 rfl rfl rfl) eA743 (by first | omega | assumption | (simp only [IntKind.wrap_i64] at *; omega)) kI))
             ·exact fun _ _ h => os rfl ((yl_loadN (cs := [.string (bs ((p_0.Ways.getD k404 d_Table).Name)), .slice A744 (((p_0.Ways.getD k404 d_Table).Cols).length) c744, .slice A745 (((p_0.Ways.getD k404 d_Table).Idxs).length) c745]) Tryz.ty95 rfl (h.dt 3 77 rfl rfl rfl) (Cells.ex eC743 h.ex) rfl kI))
             ·intro L779 w780 hi781
              have hE782 := hi781.ex
              refine OpR.op' rfl (yl_call Tryz.en88 rfl (opvs_cons (hi781.dt 4 78 rfl rfl rfl) opvs_nil) (Cal.mono (c_s_GoodTable (p_0.Ways.getD k404 d_Table) (RdS.up (RdS.ex good_Str h744 hE782) good_Str) (RdS.up (RdS.ex good_Idx h745 hE782) good_Idx) (okL.getD o4.2.1 ok_d_Table _)) ?_))
              rintro v787 w786 ⟨rfl, hE788⟩
              exact ⟨rfl, hE788⟩
             ·exact fun _ _ h => os rfl ((yl_not rfl (h.dt 5 79 rfl rfl rfl) kI))
             ·exact fun _ _ h => os rfl ((yl_move rfl (h.dt 6 80 rfl rfl rfl) kI))
             ·exact fun _ _ h => OpR.want rfl rfl (h.dt 7 81 rfl rfl rfl) (not_t hb456) (Yl.sameI (yl_move rfl (h.old 4 _ rfl rfl) kI))
             ·exact fun _ _ h => OpR.want rfl rfl (h.dt 7 81 rfl rfl rfl) (not_t hb456) (Yl.sameI (yl_move rfl (h.old 5 _ rfl rfl) kI))
             ·intro L811 w812 hi813
              have hE814 := hi813.ex
              have hE814z := Ex.size hE814
              exact OpR.want rfl rfl (hi813.dt 7 81 rfl rfl rfl) (not_t hb456) (Yl.sameI (yl_indexAddrN Tryz.un37 Tryz.ty95 rfl (hi813.dt 8 82 rfl rfl rfl) (hi813.dt 9 83 rfl rfl rfl) eA747 (by first | omega | assumption | (simp only [IntKind.wrap_i64] at *; omega)) kI))
             ·exact fun _ _ h => OpR.want rfl rfl (h.dt 7 81 rfl rfl rfl) (not_t hb456) (Yl.sameI (yl_loadN (cs := [.string (bs (((s_l24Way (p_0.Ways.getD 0 d_Table) p_0.Name ((((p_0.Ways.getD ((IntKind.wrap .i64 ((p_0.Ways.length : Int) - 1)).toNat) d_Table).Idxs).getD (((s_l24Idx (p_0.Ways.getD ((IntKind.wrap .i64 ((p_0.Ways.length : Int) - 1)).toNat) d_Table) p_0.Name)).toNat) d_Idx).Stage)).getD k404 d_Table).Name)), .slice A748 ((((s_l24Way (p_0.Ways.getD 0 d_Table) p_0.Name ((((p_0.Ways.getD ((IntKind.wrap .i64 ((p_0.Ways.length : Int) - 1)).toNat) d_Table).Idxs).getD (((s_l24Idx (p_0.Ways.getD ((IntKind.wrap .i64 ((p_0.Ways.length : Int) - 1)).toNat) d_Table) p_0.Name)).toNat) d_Idx).Stage)).getD k404 d_Table).Cols).length) c748, .slice A749 ((((s_l24Way (p_0.Ways.getD 0 d_Table) p_0.Name ((((p_0.Ways.getD ((IntKind.wrap .i64 ((p_0.Ways.length : Int) - 1)).toNat) d_Table).Idxs).getD (((s_l24Idx (p_0.Ways.getD ((IntKind.wrap .i64 ((p_0.Ways.length : Int) - 1)).toNat) d_Table) p_0.Name)).toNat) d_Idx).Stage)).getD k404 d_Table).Idxs).length) c749]) Tryz.ty95 rfl (h.dt 10 84 rfl rfl rfl) (Cells.ex eC747 h.ex) rfl kI))
             ·exact fun _ _ h => OpR.want rfl rfl (h.dt 7 81 rfl rfl rfl) (not_t hb456) (Yl.sameI (yl_fieldAddr Tryz.fd40_1 rfl (h.old 1 _ rfl rfl) kI))
             ·exact fun _ _ h => OpR.want rfl rfl (h.dt 7 81 rfl rfl rfl) (not_t hb456) (Yl.sameI (yl_load1 Tryz.ty37 rfl (h.dt 12 86 rfl rfl rfl) (((Box.ex hf444 h.ex).cell 1).trans rfl) kI))
             ·exact fun _ _ h => OpR.want rfl rfl (h.dt 7 81 rfl rfl rfl) (not_t hb456) (Yl.sameI (yl_move rfl (h.old 5 _ rfl rfl) kI))
             ·intro L844 w845 hi846
              have hE847 := hi846.ex
              have hE847z := Ex.size hE847
              exact OpR.want rfl rfl (hi846.dt 7 81 rfl rfl rfl) (not_t hb456) (Yl.sameI (yl_indexAddrN Tryz.un37 Tryz.ty95 rfl (hi846.dt 13 87 rfl rfl rfl) (hi846.dt 14 88 rfl rfl rfl) eA743 (by first | omega | assumption | (simp only [IntKind.wrap_i64] at *; omega)) kI))
             ·exact fun _ _ h => OpR.want rfl rfl (h.dt 7 81 rfl rfl rfl) (not_t hb456) (Yl.sameI (yl_loadN (cs := [.string (bs ((p_0.Ways.getD k404 d_Table).Name)), .slice A744 (((p_0.Ways.getD k404 d_Table).Cols).length) c744, .slice A745 (((p_0.Ways.getD k404 d_Table).Idxs).length) c745]) Tryz.ty95 rfl (h.dt 15 89 rfl rfl rfl) (Cells.ex eC743 h.ex) rfl kI))
             ·intro L858 w859 hi860
              have hE861 := hi860.ex
              refine OpR.want rfl rfl (hi860.dt 7 81 rfl rfl rfl) (not_t hb456) (yl_call Tryz.en91 rfl (opvs_cons (hi860.dt 11 85 rfl rfl rfl) (opvs_cons (hi860.dt 16 90 rfl rfl rfl) opvs_nil)) (Cal.mono (c_s_l24SameCols ((s_l24Way (p_0.Ways.getD 0 d_Table) p_0.Name ((((p_0.Ways.getD ((IntKind.wrap .i64 ((p_0.Ways.length : Int) - 1)).toNat) d_Table).Idxs).getD (((s_l24Idx (p_0.Ways.getD ((IntKind.wrap .i64 ((p_0.Ways.length : Int) - 1)).toNat) d_Table) p_0.Name)).toNat) d_Idx).Stage)).getD k404 d_Table) (p_0.Ways.getD k404 d_Table) (RdS.up (RdS.ex good_Str h748 hE861) good_Str) (RdS.up (RdS.ex good_Idx h749 hE861) good_Idx) (RdS.up (RdS.ex good_Str h744 hE861) good_Str) (RdS.up (RdS.ex good_Idx h745 hE861) good_Idx) (okL.getD h396 ok_d_Table _) (okL.getD o4.2.1 ok_d_Table _)) ?_))
              rintro v870 w869 ⟨rfl, hE871⟩
              exact ⟨rfl, hE871⟩
             ·exact fun _ _ h => OpR.want rfl rfl (h.dt 7 81 rfl rfl rfl) (not_t hb456) (Yl.sameI (yl_not rfl (h.dt 17 91 rfl rfl rfl) kI))
             ·exact fun _ _ h => os rfl ((yl_pick_f rfl (h.dt 7 81 rfl rfl rfl) (not_t hb456) (h.dt 18 92 rfl rfl rfl) kI))
             ·exact fun _ _ h => os rfl ((yl_move rfl (h.dt 19 93 rfl rfl rfl) kI))
             ·exact fun _ _ h => OpR.skip rfl rfl (h.dt 20 94 rfl rfl rfl) (not_f hb465) ⟨rfl, Ex.refl _⟩
             ·exact fun _ _ h => OpR.skip rfl rfl (h.dt 20 94 rfl rfl rfl) (not_f hb465) ⟨rfl, Ex.refl _⟩
             ·exact fun _ _ h => OpR.skip rfl rfl (h.dt 20 94 rfl rfl rfl) (not_f hb465) ⟨rfl, Ex.refl _⟩
             ·exact fun _ _ h => OpR.skip rfl rfl (h.dt 20 94 rfl rfl rfl) (not_f hb465) ⟨rfl, Ex.refl _⟩
             ·exact fun _ _ h => OpR.skip rfl rfl (h.dt 20 94 rfl rfl rfl) (not_f hb465) ⟨rfl, Ex.refl _⟩
             ·exact fun _ _ h => OpR.skip rfl rfl (h.dt 20 94 rfl rfl rfl) (not_f hb465) ⟨rfl, Ex.refl _⟩
             ·exact fun _ _ h => OpR.skip rfl rfl (h.dt 20 94 rfl rfl rfl) (not_f hb465) ⟨rfl, Ex.refl _⟩
             ·exact fun _ _ h => OpR.skip rfl rfl (h.dt 20 94 rfl rfl rfl) (not_f hb465) ⟨rfl, Ex.refl _⟩
             ·exact fun _ _ h => OpR.skip rfl rfl (h.dt 20 94 rfl rfl rfl) (not_f hb465) ⟨rfl, Ex.refl _⟩
             ·exact fun _ _ h => OpR.skip rfl rfl (h.dt 20 94 rfl rfl rfl) (not_f hb465) ⟨rfl, Ex.refl _⟩
             ·exact fun _ _ h => OpR.skip rfl rfl (h.dt 20 94 rfl rfl rfl) (not_f hb465) ⟨rfl, Ex.refl _⟩
             ·exact fun _ _ h => os rfl ((yl_pick_t rfl (h.dt 20 94 rfl rfl rfl) (not_f hb465) rfl kI))
             ·intro fl953 fh954 L950 w951 hp952
              have hE955 := hp952.ex
              have hE955z := Ex.size hE955
              refine SeqR.done (tn (CW.sub (Sub.cons (d := 1) (hp952.old 1 _ rfl rfl) (Sub.cons (d := 4) (hp952.old 4 _ rfl rfl) (Sub.cons (d := 70) (hp952.old 70 _ rfl rfl) (Sub.cons (d := 71) (hp952.old 71 _ rfl rfl) (Sub.cons (d := 82) (hp952.nt 8 82 rfl rfl rfl) (Sub.cons (d := 83) (hp952.nt 9 83 rfl rfl rfl) (Sub.cons (d := 84) (hp952.nt 10 84 rfl rfl rfl) (Sub.cons (d := 85) (hp952.nt 11 85 rfl rfl rfl) (Sub.cons (d := 86) (hp952.nt 12 86 rfl rfl rfl) (Sub.cons (d := 87) (hp952.nt 13 87 rfl rfl rfl) (Sub.cons (d := 88) (hp952.nt 14 88 rfl rfl rfl) (Sub.cons (d := 89) (hp952.nt 15 89 rfl rfl rfl) (Sub.cons (d := 90) (hp952.nt 16 90 rfl rfl rfl) (Sub.cons (d := 91) (hp952.nt 17 91 rfl rfl rfl) (Sub.cons (d := 92) (hp952.nt 18 92 rfl rfl rfl) (Sub.cons (d := 95) (hp952.nt 21 95 rfl rfl rfl) (Sub.cons (d := 96) (hp952.nt 22 96 rfl rfl rfl) (Sub.cons (d := 97) (hp952.nt 23 97 rfl rfl rfl) (Sub.cons (d := 98) (hp952.nt 24 98 rfl rfl rfl) (Sub.cons (d := 99) (hp952.nt 25 99 rfl rfl rfl) (Sub.cons (d := 100) (hp952.nt 26 100 rfl rfl rfl) (Sub.cons (d := 101) (hp952.nt 27 101 rfl rfl rfl) (Sub.cons (d := 102) (hp952.nt 28 102 rfl rfl rfl) (Sub.cons (d := 103) (hp952.nt 29 103 rfl rfl rfl) (Sub.cons (d := 104) (hp952.nt 30 104 rfl rfl rfl) (Sub.cons (d := 105) (hp952.nt 31 105 rfl rfl rfl) (Sub.cons (d := 106) (hp952.nt 32 106 rfl rfl rfl) (Sub.nil _)))))))))))))))))))))))))))) (CW.cond_t rfl rfl (CW.seq (CW.region (sd rfl (yl_assign rfl rfl (SeqR.done (tn ?_)))))))))
              refine CW.ret (br (tr (tr ?_)))
              have hB984 : B_s_l27Ways_0 p_0 k404 () = .ret false := by simp only [B_s_l27Ways_0, hb16, hb23, hb191, hb216, hb227, hb403, hb456, hb465, cond_true, cond_false, loopE_done, loopE_ret]
              have hL983 : loopM (B_s_l27Ways_0 p_0) ((s_l24Way (p_0.Ways.getD 0 d_Table) p_0.Name ((((p_0.Ways.getD ((IntKind.wrap .i64 ((p_0.Ways.length : Int) - 1)).toNat) d_Table).Idxs).getD (((s_l24Idx (p_0.Ways.getD ((IntKind.wrap .i64 ((p_0.Ways.length : Int) - 1)).toNat) d_Table) p_0.Name)).toNat) d_Idx).Stage)).length - 0) 0 () = .ret false := hI438.symm.trans (loopM.ret hlt451 hB984)
              refine br (tr (rr rfl (.cons rfl .nil) ?_))
              have hM985 : (s_l27Ways p_0) = (false) := by simp only [s_l27Ways, hb16, hb23, hb191, hb216, hb227, hb403, hb456, hb465, hL983, cond_true, cond_false, loopE_done, loopE_ret]
              rw [hM985]
              exact ⟨rfl, (Ex.trans hf449 hE955)⟩
           ·obtain ⟨eb987, eo987, ec987, eA987, eS987, ebl987, el987, eR987, eC987⟩ := RdS.atD hf445 d_Table (i := k404) (by first | omega | assumption)
            obtain ⟨A988, c988, A989, c989, rfl, h988, h989⟩ := eR987
            have eC987 : Cells w436 eb987 (eo987 + k404 * 3) [.string (bs ((p_0.Ways.getD k404 d_Table).Name)), .slice A988 (((p_0.Ways.getD k404 d_Table).Cols).length) c988, .slice A989 (((p_0.Ways.getD k404 d_Table).Idxs).length) c989] := eC987
            refine CW.drawsI 33 (vgetI [DetI (.pointer (some ⟨b9, 0 + 1, none⟩)), DetI (.slice A1 p_0.Ways.length c1), DetI (.int .i64 ((k404 : Int))), DetI (.pointer (some ⟨eb987, eo987 + k404 * 3, none⟩)), DetI (.agg #[.string (bs ((p_0.Ways.getD k404 d_Table).Name)), .slice A988 (((p_0.Ways.getD k404 d_Table).Cols).length) c988, .slice A989 (((p_0.Ways.getD k404 d_Table).Idxs).length) c989]), DetI (.bool ((s_GoodTable (p_0.Ways.getD k404 d_Table)))), DetI (.bool (!(s_GoodTable (p_0.Ways.getD k404 d_Table)))), DetI (.bool (!(s_GoodTable (p_0.Ways.getD k404 d_Table)))), DetI (undef), DetI (undef), DetI (undef), DetI (undef), DetI (undef), DetI (undef), DetI (undef), DetI (undef), DetI (undef), DetI (undef), DetI (undef), DetI (.bool (true)), DetI (.bool (true)), DetI (undef), DetI (undef), DetI (undef), DetI (undef), DetI (undef), DetI (undef), DetI (undef), DetI (undef), DetI (undef), DetI (undef), DetI (undef), DetI (.bool (true))]) Tryz.follows rfl rfl rfl rfl rfl rfl (vgetI_stable ⟨StableI.det _, StableI.det _, StableI.det _, StableI.det _, StableI.det _, StableI.det _, StableI.det _, StableI.det _, StableI.det _, StableI.det _, StableI.det _, StableI.det _, StableI.det _, StableI.det _, StableI.det _, StableI.det _, StableI.det _, StableI.det _, StableI.det _, StableI.det _, StableI.det _, StableI.det _, StableI.det _, StableI.det _, StableI.det _, StableI.det _, StableI.det _, StableI.det _, StableI.det _, StableI.det _, StableI.det _, StableI.det _, StableI.det _, trivial⟩) ⟨?_, ?_, ?_, ?_, ?_, ?_, ?_, ?_, ?_, ?_, ?_, ?_, ?_, ?_, ?_, ?_, ?_, ?_, ?_, ?_, ?_, ?_, ?_, ?_, ?_, ?_, ?_, ?_, ?_, ?_, ?_, ?_, ?_, trivial⟩ ?_
            ·exact fun _ _ h => os rfl ((yl_fieldAddr Tryz.fd40_1 rfl (h.old 1 _ rfl rfl) kI))
            ·exact fun _ _ h => os rfl ((yl_load1 Tryz.ty37 rfl (h.dt 0 74 rfl rfl rfl) (((Box.ex hf444 h.ex).cell 1).trans rfl) kI))
            ·exact fun _ _ h => os rfl ((yl_move rfl (h.old 5 _ rfl rfl) kI))
            ·intro L1007 w1008 hi1009
             have hE1010 := hi1009.ex
             have hE1010z := Ex.size hE1010
             exact os rfl ((yl_indexAddrN Tryz.un37 Tryz.ty95 rfl (hi1009.dt 1 75 rfl rfl rfl) (hi1009.dt 2 76 rfl rfl rfl) eA987 (by first | omega | assumption | (simp only [IntKind.wrap_i64] at *; omega)) kI))
            ·exact fun _ _ h => os rfl ((yl_loadN (cs := [.string (bs ((p_0.Ways.getD k404 d_Table).Name)), .slice A988 (((p_0.Ways.getD k404 d_Table).Cols).length) c988, .slice A989 (((p_0.Ways.getD k404 d_Table).Idxs).length) c989]) Tryz.ty95 rfl (h.dt 3 77 rfl rfl rfl) (Cells.ex eC987 h.ex) rfl kI))
            ·intro L1019 w1020 hi1021
             have hE1022 := hi1021.ex
             refine OpR.op' rfl (yl_call Tryz.en88 rfl (opvs_cons (hi1021.dt 4 78 rfl rfl rfl) opvs_nil) (Cal.mono (c_s_GoodTable (p_0.Ways.getD k404 d_Table) (RdS.up (RdS.ex good_Str h988 hE1022) good_Str) (RdS.up (RdS.ex good_Idx h989 hE1022) good_Idx) (okL.getD o4.2.1 ok_d_Table _)) ?_))
             rintro v1027 w1026 ⟨rfl, hE1028⟩
             exact ⟨rfl, hE1028⟩
            ·exact fun _ _ h => os rfl ((yl_not rfl (h.dt 5 79 rfl rfl rfl) kI))
            ·exact fun _ _ h => os rfl ((yl_move rfl (h.dt 6 80 rfl rfl rfl) kI))
            ·exact fun _ _ h => OpR.skip rfl rfl (h.dt 7 81 rfl rfl rfl) (not_f hb456) ⟨rfl, Ex.refl _⟩
            ·exact fun _ _ h => OpR.skip rfl rfl (h.dt 7 81 rfl rfl rfl) (not_f hb456) ⟨rfl, Ex.refl _⟩
            ·exact fun _ _ h => OpR.skip rfl rfl (h.dt 7 81 rfl rfl rfl) (not_f hb456) ⟨rfl, Ex.refl _⟩
            ·exact fun _ _ h => OpR.skip rfl rfl (h.dt 7 81 rfl rfl rfl) (not_f hb456) ⟨rfl, Ex.refl _⟩
            ·exact fun _ _ h => OpR.skip rfl rfl (h.dt 7 81 rfl rfl rfl) (not_f hb456) ⟨rfl, Ex.refl _⟩
            ·exact fun _ _ h => OpR.skip rfl rfl (h.dt 7 81 rfl rfl rfl) (not_f hb456) ⟨rfl, Ex.refl _⟩
            ·exact fun _ _ h => OpR.skip rfl rfl (h.dt 7 81 rfl rfl rfl) (not_f hb456) ⟨rfl, Ex.refl _⟩
            ·exact fun _ _ h => OpR.skip rfl rfl (h.dt 7 81 rfl rfl rfl) (not_f hb456) ⟨rfl, Ex.refl _⟩
            ·exact fun _ _ h => OpR.skip rfl rfl (h.dt 7 81 rfl rfl rfl) (not_f hb456) ⟨rfl, Ex.refl _⟩
            ·exact fun _ _ h => OpR.skip rfl rfl (h.dt 7 81 rfl rfl rfl) (not_f hb456) ⟨rfl, Ex.refl _⟩
            ·exact fun _ _ h => OpR.skip rfl rfl (h.dt 7 81 rfl rfl rfl) (not_f hb456) ⟨rfl, Ex.refl _⟩
            ·exact fun _ _ h => os rfl ((yl_pick_t rfl (h.dt 7 81 rfl rfl rfl) (not_f hb456) rfl kI))
            ·exact fun _ _ h => os rfl ((yl_move rfl (h.dt 19 93 rfl rfl rfl) kI))
            ·exact fun _ _ h => OpR.skip rfl rfl (h.dt 20 94 rfl rfl rfl) rfl ⟨rfl, Ex.refl _⟩
            ·exact fun _ _ h => OpR.skip rfl rfl (h.dt 20 94 rfl rfl rfl) rfl ⟨rfl, Ex.refl _⟩
            ·exact fun _ _ h => OpR.skip rfl rfl (h.dt 20 94 rfl rfl rfl) rfl ⟨rfl, Ex.refl _⟩
            ·exact fun _ _ h => OpR.skip rfl rfl (h.dt 20 94 rfl rfl rfl) rfl ⟨rfl, Ex.refl _⟩
            ·exact fun _ _ h => OpR.skip rfl rfl (h.dt 20 94 rfl rfl rfl) rfl ⟨rfl, Ex.refl _⟩
            ·exact fun _ _ h => OpR.skip rfl rfl (h.dt 20 94 rfl rfl rfl) rfl ⟨rfl, Ex.refl _⟩
            ·exact fun _ _ h => OpR.skip rfl rfl (h.dt 20 94 rfl rfl rfl) rfl ⟨rfl, Ex.refl _⟩
            ·exact fun _ _ h => OpR.skip rfl rfl (h.dt 20 94 rfl rfl rfl) rfl ⟨rfl, Ex.refl _⟩
            ·exact fun _ _ h => OpR.skip rfl rfl (h.dt 20 94 rfl rfl rfl) rfl ⟨rfl, Ex.refl _⟩
            ·exact fun _ _ h => OpR.skip rfl rfl (h.dt 20 94 rfl rfl rfl) rfl ⟨rfl, Ex.refl _⟩
            ·exact fun _ _ h => OpR.skip rfl rfl (h.dt 20 94 rfl rfl rfl) rfl ⟨rfl, Ex.refl _⟩
            ·exact fun _ _ h => os rfl ((yl_pick_t rfl (h.dt 20 94 rfl rfl rfl) rfl rfl kI))
            ·intro fl1169 fh1170 L1166 w1167 hp1168
             have hE1171 := hp1168.ex
             have hE1171z := Ex.size hE1171
             refine SeqR.done (tn (CW.sub (Sub.cons (d := 1) (hp1168.old 1 _ rfl rfl) (Sub.cons (d := 4) (hp1168.old 4 _ rfl rfl) (Sub.cons (d := 70) (hp1168.old 70 _ rfl rfl) (Sub.cons (d := 71) (hp1168.old 71 _ rfl rfl) (Sub.cons (d := 82) (hp1168.nt 8 82 rfl rfl rfl) (Sub.cons (d := 83) (hp1168.nt 9 83 rfl rfl rfl) (Sub.cons (d := 84) (hp1168.nt 10 84 rfl rfl rfl) (Sub.cons (d := 85) (hp1168.nt 11 85 rfl rfl rfl) (Sub.cons (d := 86) (hp1168.nt 12 86 rfl rfl rfl) (Sub.cons (d := 87) (hp1168.nt 13 87 rfl rfl rfl) (Sub.cons (d := 88) (hp1168.nt 14 88 rfl rfl rfl) (Sub.cons (d := 89) (hp1168.nt 15 89 rfl rfl rfl) (Sub.cons (d := 90) (hp1168.nt 16 90 rfl rfl rfl) (Sub.cons (d := 91) (hp1168.nt 17 91 rfl rfl rfl) (Sub.cons (d := 92) (hp1168.nt 18 92 rfl rfl rfl) (Sub.cons (d := 95) (hp1168.nt 21 95 rfl rfl rfl) (Sub.cons (d := 96) (hp1168.nt 22 96 rfl rfl rfl) (Sub.cons (d := 97) (hp1168.nt 23 97 rfl rfl rfl) (Sub.cons (d := 98) (hp1168.nt 24 98 rfl rfl rfl) (Sub.cons (d := 99) (hp1168.nt 25 99 rfl rfl rfl) (Sub.cons (d := 100) (hp1168.nt 26 100 rfl rfl rfl) (Sub.cons (d := 101) (hp1168.nt 27 101 rfl rfl rfl) (Sub.cons (d := 102) (hp1168.nt 28 102 rfl rfl rfl) (Sub.cons (d := 103) (hp1168.nt 29 103 rfl rfl rfl) (Sub.cons (d := 104) (hp1168.nt 30 104 rfl rfl rfl) (Sub.cons (d := 105) (hp1168.nt 31 105 rfl rfl rfl) (Sub.cons (d := 106) (hp1168.nt 32 106 rfl rfl rfl) (Sub.nil _)))))))))))))))))))))))))))) (CW.cond_t rfl rfl (CW.seq (CW.region (sd rfl (yl_assign rfl rfl (SeqR.done (tn ?_)))))))))
             refine CW.ret (br (tr (tr ?_)))
             have hB1200 : B_s_l27Ways_0 p_0 k404 () = .ret false := by simp only [B_s_l27Ways_0, hb16, hb23, hb191, hb216, hb227, hb403, hb456, cond_true, cond_false, loopE_done, loopE_ret]
             have hL1199 : loopM (B_s_l27Ways_0 p_0) ((s_l24Way (p_0.Ways.getD 0 d_Table) p_0.Name ((((p_0.Ways.getD ((IntKind.wrap .i64 ((p_0.Ways.length : Int) - 1)).toNat) d_Table).Idxs).getD (((s_l24Idx (p_0.Ways.getD ((IntKind.wrap .i64 ((p_0.Ways.length : Int) - 1)).toNat) d_Table) p_0.Name)).toNat) d_Idx).Stage)).length - 0) 0 () = .ret false := hI438.symm.trans (loopM.ret hlt451 hB1200)
             refine br (tr (rr rfl (.cons rfl .nil) ?_))
             have hM1201 : (s_l27Ways p_0) = (false) := by simp only [s_l27Ways, hb16, hb23, hb191, hb216, hb227, hb403, hb456, hL1199, cond_true, cond_false, loopE_done, loopE_ret]
             rw [hM1201]
             exact ⟨rfl, (Ex.trans hf449 hE1171)⟩
          ·refine CW.seq (CW.region (sd rfl (yl_lss rfl rfl rfl (SeqR.done (tn (CW.seq (CW.cond_f rfl (lt_f hlt451) (CW.exit (tx ?_)))))))))
           refine tx ?_
           have hL1203 : loopM (B_s_l27Ways_0 p_0) ((s_l24Way (p_0.Ways.getD 0 d_Table) p_0.Name ((((p_0.Ways.getD ((IntKind.wrap .i64 ((p_0.Ways.length : Int) - 1)).toNat) d_Table).Idxs).getD (((s_l24Idx (p_0.Ways.getD ((IntKind.wrap .i64 ((p_0.Ways.length : Int) - 1)).toNat) d_Table) p_0.Name)).toNat) d_Idx).Stage)).length - 0) 0 () = .done () := hI438.symm.trans (loopM.stop hlt451)
           refine bx (tn (CW.seq (CW.region (sd rfl (yl_assign rfl rfl (SeqR.done (tn (CW.ret (rr rfl (.cons rfl .nil) ?_)))))))))
           have hM1204 : (s_l27Ways p_0) = (true) := by simp only [s_l27Ways, hb16, hb23, hb191, hb216, hb227, hb403, hL1203, cond_true, cond_false, loopE_done, loopE_ret]
           rw [hM1204]
           exact ⟨rfl, hf449⟩
        ·have hb403p := dec_f hb403
         refine CW.cond_t rfl (not_f hb403) (CW.seq (CW.region (sd rfl (yl_assign rfl rfl (SeqR.done (tn (CW.ret (tr (rr rfl (.cons rfl .nil) ?_)))))))))
         have hM1205 : (s_l27Ways p_0) = (false) := by simp only [s_l27Ways, hb16, hb23, hb191, hb216, hb227, hb403, cond_true, cond_false, loopE_done, loopE_ret]
         rw [hM1205]
         exact ⟨rfl, (Ex.trans (Ex.trans (Ex.trans (Below.only (Ex.trans (Ex.trans (Ex.trans (Ex.refl w) hE14) hE188) hE205) hO208 (by omega)) hE215) hE225) hE387)⟩
     ·refine sz rfl rfl (not_f hb216) (sz rfl rfl (not_f hb216) (sz rfl rfl (not_f hb216) (sz rfl rfl (not_f hb216) (sz rfl rfl (not_f hb216) (sd rfl (yl_pick_t rfl rfl (not_f hb216) rfl (SeqR.done (tn (CW.cond_t rfl rfl ?_)))))))))
      refine CW.seq (CW.region (sd rfl (yl_assign rfl rfl (SeqR.done (tn (CW.ret (tr (rr rfl (.cons rfl .nil) ?_))))))))
      have hM1213 : (s_l27Ways p_0) = (false) := by simp only [s_l27Ways, hb16, hb23, hb191, hb216, cond_true, cond_false, loopE_done, loopE_ret]
      rw [hM1213]
      exact ⟨rfl, (Ex.trans (Below.only (Ex.trans (Ex.trans (Ex.trans (Ex.refl w) hE14) hE188) hE205) hO208 (by omega)) hE215)⟩
  ·obtain ⟨eb1221, eo1221, ec1221, eA1221, eS1221, ebl1221, el1221, eR1221, eC1221⟩ := RdS.atD (RdS.ex good_Table h1 hE14) d_Table (i := 0) (by first | omega | assumption)
   obtain ⟨A1222, c1222, A1223, c1223, rfl, h1222, h1223⟩ := eR1221
   have eC1221 : Cells w10 eb1221 (eo1221 + 0 * 3) [.string (bs ((p_0.Ways.getD 0 d_Table).Name)), .slice A1222 (((p_0.Ways.getD 0 d_Table).Cols).length) c1222, .slice A1223 (((p_0.Ways.getD 0 d_Table).Idxs).length) c1223] := eC1221
   refine CW.drawsI 23 (vgetI [DetI (.pointer (some ⟨b9, 0 + 1, none⟩)), DetI (.slice A1 p_0.Ways.length c1), DetI (.int .i64 ((p_0.Ways.length : Int))), DetI (.bool ((s_l1In (p_0.Ways.length : Int) 1 4))), DetI (.bool (!(s_l1In (p_0.Ways.length : Int) 1 4))), DetI (.bool (!(s_l1In (p_0.Ways.length : Int) 1 4))), DetI (.pointer (some ⟨b9, 0 + 1, none⟩)), DetI (.slice A1 p_0.Ways.length c1), DetI (.pointer (some ⟨eb1221, eo1221 + 0 * 3, none⟩)), DetI (.agg #[.string (bs ((p_0.Ways.getD 0 d_Table).Name)), .slice A1222 (((p_0.Ways.getD 0 d_Table).Cols).length) c1222, .slice A1223 (((p_0.Ways.getD 0 d_Table).Idxs).length) c1223]), DetI (.bool ((s_GoodTable (p_0.Ways.getD 0 d_Table)))), DetI (.bool (!(s_GoodTable (p_0.Ways.getD 0 d_Table)))), DetI (.bool (!(s_GoodTable (p_0.Ways.getD 0 d_Table)))), DetI (.bool (!(s_GoodTable (p_0.Ways.getD 0 d_Table)))), DetI (undef), DetI (undef), DetI (undef), DetI (undef), DetI (undef), DetI (undef), DetI (undef), DetI (undef), DetI (.bool (true))]) Tryz.follows rfl rfl rfl rfl rfl rfl (vgetI_stable ⟨StableI.det _, StableI.det _, StableI.det _, StableI.det _, StableI.det _, StableI.det _, StableI.det _, StableI.det _, StableI.det _, StableI.det _, StableI.det _, StableI.det _, StableI.det _, StableI.det _, StableI.det _, StableI.det _, StableI.det _, StableI.det _, StableI.det _, StableI.det _, StableI.det _, StableI.det _, StableI.det _, trivial⟩) ⟨?_, ?_, ?_, ?_, ?_, ?_, ?_, ?_, ?_, ?_, ?_, ?_, ?_, ?_, ?_, ?_, ?_, ?_, ?_, ?_, ?_, ?_, ?_, trivial⟩ ?_
   ·exact fun _ _ h => os rfl ((yl_fieldAddr Tryz.fd40_1 rfl (h.old 1 _ rfl rfl) kI))
   ·exact fun _ _ h => os rfl ((yl_load1 Tryz.ty37 rfl (h.dt 0 6 rfl rfl rfl) (((Box.ex hB13 h.ex).cell 1).trans rfl) kI))
   ·exact fun _ _ h => os rfl ((yl_len Tryz.un37 rfl (h.dt 1 7 rfl rfl rfl) kI))
   ·intro L1241 w1242 hi1243
    refine OpR.op' rfl (yl_call Tryz.en55 rfl (opvs_cons (hi1243.dt 2 8 rfl rfl rfl) (opvs_cons rfl (opvs_cons rfl opvs_nil))) (Cal.mono (c_s_l1In (p_0.Ways.length : Int) 1 4) ?_))
    rintro v1247 w1246 ⟨rfl, hE1248⟩
    exact ⟨rfl, hE1248⟩
   ·exact fun _ _ h => os rfl ((yl_not rfl (h.dt 3 9 rfl rfl rfl) kI))
   ·exact fun _ _ h => os rfl ((yl_move rfl (h.dt 4 10 rfl rfl rfl) kI))
   ·exact fun _ _ h => OpR.want rfl rfl (h.dt 5 11 rfl rfl rfl) (not_t hb16) (Yl.sameI (yl_fieldAddr Tryz.fd40_1 rfl (h.old 1 _ rfl rfl) kI))
   ·exact fun _ _ h => OpR.want rfl rfl (h.dt 5 11 rfl rfl rfl) (not_t hb16) (Yl.sameI (yl_load1 Tryz.ty37 rfl (h.dt 6 12 rfl rfl rfl) (((Box.ex hB13 h.ex).cell 1).trans rfl) kI))
   ·intro L1272 w1273 hi1274
    have hE1275 := hi1274.ex
    have hE1275z := Ex.size hE1275
    exact OpR.want rfl rfl (hi1274.dt 5 11 rfl rfl rfl) (not_t hb16) (Yl.sameI (yl_indexAddrN Tryz.un37 Tryz.ty95 rfl (hi1274.dt 7 13 rfl rfl rfl) rfl eA1221 (by first | omega | assumption | (simp only [IntKind.wrap_i64] at *; omega)) kI))
   ·exact fun _ _ h => OpR.want rfl rfl (h.dt 5 11 rfl rfl rfl) (not_t hb16) (Yl.sameI (yl_loadN (cs := [.string (bs ((p_0.Ways.getD 0 d_Table).Name)), .slice A1222 (((p_0.Ways.getD 0 d_Table).Cols).length) c1222, .slice A1223 (((p_0.Ways.getD 0 d_Table).Idxs).length) c1223]) Tryz.ty95 rfl (h.dt 8 14 rfl rfl rfl) (Cells.ex eC1221 h.ex) rfl kI))
   ·intro L1285 w1286 hi1287
    have hE1288 := hi1287.ex
    refine OpR.want rfl rfl (hi1287.dt 5 11 rfl rfl rfl) (not_t hb16) (yl_call Tryz.en88 rfl (opvs_cons (hi1287.dt 9 15 rfl rfl rfl) opvs_nil) (Cal.mono (c_s_GoodTable (p_0.Ways.getD 0 d_Table) (RdS.up (RdS.ex good_Str h1222 hE1288) good_Str) (RdS.up (RdS.ex good_Idx h1223 hE1288) good_Idx) (okL.getD o4.2.1 ok_d_Table _)) ?_))
    rintro v1294 w1293 ⟨rfl, hE1295⟩
    exact ⟨rfl, hE1295⟩
   ·exact fun _ _ h => OpR.want rfl rfl (h.dt 5 11 rfl rfl rfl) (not_t hb16) (Yl.sameI (yl_not rfl (h.dt 10 16 rfl rfl rfl) kI))
   ·exact fun _ _ h => os rfl ((yl_pick_f rfl (h.dt 5 11 rfl rfl rfl) (not_t hb16) (h.dt 11 17 rfl rfl rfl) kI))
   ·exact fun _ _ h => os rfl ((yl_move rfl (h.dt 12 18 rfl rfl rfl) kI))
   ·exact fun _ _ h => OpR.skip rfl rfl (h.dt 13 19 rfl rfl rfl) (not_f hb23) ⟨rfl, Ex.refl _⟩
   ·exact fun _ _ h => OpR.skip rfl rfl (h.dt 13 19 rfl rfl rfl) (not_f hb23) ⟨rfl, Ex.refl _⟩
   ·exact fun _ _ h => OpR.skip rfl rfl (h.dt 13 19 rfl rfl rfl) (not_f hb23) ⟨rfl, Ex.refl _⟩
   ·exact fun _ _ h => OpR.skip rfl rfl (h.dt 13 19 rfl rfl rfl) (not_f hb23) ⟨rfl, Ex.refl _⟩
   ·exact fun _ _ h => OpR.skip rfl rfl (h.dt 13 19 rfl rfl rfl) (not_f hb23) ⟨rfl, Ex.refl _⟩
   ·exact fun _ _ h => OpR.skip rfl rfl (h.dt 13 19 rfl rfl rfl) (not_f hb23) ⟨rfl, Ex.refl _⟩
   ·exact fun _ _ h => OpR.skip rfl rfl (h.dt 13 19 rfl rfl rfl) (not_f hb23) ⟨rfl, Ex.refl _⟩
   ·exact fun _ _ h => OpR.skip rfl rfl (h.dt 13 19 rfl rfl rfl) (not_f hb23) ⟨rfl, Ex.refl _⟩
   ·exact fun _ _ h => os rfl ((yl_pick_t rfl (h.dt 13 19 rfl rfl rfl) (not_f hb23) rfl kI))
   ·intro fl1362 fh1363 L1359 w1360 hp1361
    have hE1364 := hp1361.ex
    have hE1364z := Ex.size hE1364
    refine SeqR.done (tn (CW.sub (Sub.cons (d := 1) (hp1361.old 1 _ rfl rfl) (Sub.cons (d := 28) (hp1361.nt 22 28 rfl rfl rfl) (Sub.nil _))) (CW.cond_t rfl rfl (CW.seq (CW.region (sd rfl (yl_assign rfl rfl (SeqR.done (tn ?_)))))))))
    refine CW.ret (tr (rr rfl (.cons rfl .nil) ?_))
    have hM1367 : (s_l27Ways p_0) = (false) := by simp only [s_l27Ways, hb16, hb23, cond_true, cond_false, loopE_done, loopE_ret]
    rw [hM1367]
    exact ⟨rfl, (Ex.trans (Ex.trans (Ex.refl w) hE14) hE1364)⟩
 ·refine CW.drawsI 23 (vgetI [DetI (.pointer (some ⟨b9, 0 + 1, none⟩)), DetI (.slice A1 p_0.Ways.length c1), DetI (.int .i64 ((p_0.Ways.length : Int))), DetI (.bool ((s_l1In (p_0.Ways.length : Int) 1 4))), DetI (.bool (!(s_l1In (p_0.Ways.length : Int) 1 4))), DetI (.bool (!(s_l1In (p_0.Ways.length : Int) 1 4))), DetI (undef), DetI (undef), DetI (undef), DetI (undef), DetI (undef), DetI (undef), DetI (.bool (true)), DetI (.bool (true)), DetI (undef), DetI (undef), DetI (undef), DetI (undef), DetI (undef), DetI (undef), DetI (undef), DetI (undef), DetI (.bool (true))]) Tryz.follows rfl rfl rfl rfl rfl rfl (vgetI_stable ⟨StableI.det _, StableI.det _, StableI.det _, StableI.det _, StableI.det _, StableI.det _, StableI.det _, StableI.det _, StableI.det _, StableI.det _, StableI.det _, StableI.det _, StableI.det _, StableI.det _, StableI.det _, StableI.det _, StableI.det _, StableI.det _, StableI.det _, StableI.det _, StableI.det _, StableI.det _, StableI.det _, trivial⟩) ⟨?_, ?_, ?_, ?_, ?_, ?_, ?_, ?_, ?_, ?_, ?_, ?_, ?_, ?_, ?_, ?_, ?_, ?_, ?_, ?_, ?_, ?_, ?_, trivial⟩ ?_
  ·exact fun _ _ h => os rfl ((yl_fieldAddr Tryz.fd40_1 rfl (h.old 1 _ rfl rfl) kI))
  ·exact fun _ _ h => os rfl ((yl_load1 Tryz.ty37 rfl (h.dt 0 6 rfl rfl rfl) (((Box.ex hB13 h.ex).cell 1).trans rfl) kI))
  ·exact fun _ _ h => os rfl ((yl_len Tryz.un37 rfl (h.dt 1 7 rfl rfl rfl) kI))
  ·intro L1387 w1388 hi1389
   refine OpR.op' rfl (yl_call Tryz.en55 rfl (opvs_cons (hi1389.dt 2 8 rfl rfl rfl) (opvs_cons rfl (opvs_cons rfl opvs_nil))) (Cal.mono (c_s_l1In (p_0.Ways.length : Int) 1 4) ?_))
   rintro v1393 w1392 ⟨rfl, hE1394⟩
   exact ⟨rfl, hE1394⟩
  ·exact fun _ _ h => os rfl ((yl_not rfl (h.dt 3 9 rfl rfl rfl) kI))
  ·exact fun _ _ h => os rfl ((yl_move rfl (h.dt 4 10 rfl rfl rfl) kI))
  ·exact fun _ _ h => OpR.skip rfl rfl (h.dt 5 11 rfl rfl rfl) (not_f hb16) ⟨rfl, Ex.refl _⟩
  ·exact fun _ _ h => OpR.skip rfl rfl (h.dt 5 11 rfl rfl rfl) (not_f hb16) ⟨rfl, Ex.refl _⟩
  ·exact fun _ _ h => OpR.skip rfl rfl (h.dt 5 11 rfl rfl rfl) (not_f hb16) ⟨rfl, Ex.refl _⟩
  ·exact fun _ _ h => OpR.skip rfl rfl (h.dt 5 11 rfl rfl rfl) (not_f hb16) ⟨rfl, Ex.refl _⟩
  ·exact fun _ _ h => OpR.skip rfl rfl (h.dt 5 11 rfl rfl rfl) (not_f hb16) ⟨rfl, Ex.refl _⟩
  ·exact fun _ _ h => OpR.skip rfl rfl (h.dt 5 11 rfl rfl rfl) (not_f hb16) ⟨rfl, Ex.refl _⟩
  ·exact fun _ _ h => os rfl ((yl_pick_t rfl (h.dt 5 11 rfl rfl rfl) (not_f hb16) rfl kI))
  ·exact fun _ _ h => os rfl ((yl_move rfl (h.dt 12 18 rfl rfl rfl) kI))
  ·exact fun _ _ h => OpR.skip rfl rfl (h.dt 13 19 rfl rfl rfl) rfl ⟨rfl, Ex.refl _⟩
  ·exact fun _ _ h => OpR.skip rfl rfl (h.dt 13 19 rfl rfl rfl) rfl ⟨rfl, Ex.refl _⟩
  ·exact fun _ _ h => OpR.skip rfl rfl (h.dt 13 19 rfl rfl rfl) rfl ⟨rfl, Ex.refl _⟩
  ·exact fun _ _ h => OpR.skip rfl rfl (h.dt 13 19 rfl rfl rfl) rfl ⟨rfl, Ex.refl _⟩
  ·exact fun _ _ h => OpR.skip rfl rfl (h.dt 13 19 rfl rfl rfl) rfl ⟨rfl, Ex.refl _⟩
  ·exact fun _ _ h => OpR.skip rfl rfl (h.dt 13 19 rfl rfl rfl) rfl ⟨rfl, Ex.refl _⟩
  ·exact fun _ _ h => OpR.skip rfl rfl (h.dt 13 19 rfl rfl rfl) rfl ⟨rfl, Ex.refl _⟩
  ·exact fun _ _ h => OpR.skip rfl rfl (h.dt 13 19 rfl rfl rfl) rfl ⟨rfl, Ex.refl _⟩
  ·exact fun _ _ h => os rfl ((yl_pick_t rfl (h.dt 13 19 rfl rfl rfl) rfl rfl kI))
  ·intro fl1495 fh1496 L1492 w1493 hp1494
   have hE1497 := hp1494.ex
   have hE1497z := Ex.size hE1497
   refine SeqR.done (tn (CW.sub (Sub.cons (d := 1) (hp1494.old 1 _ rfl rfl) (Sub.cons (d := 28) (hp1494.nt 22 28 rfl rfl rfl) (Sub.nil _))) (CW.cond_t rfl rfl (CW.seq (CW.region (sd rfl (yl_assign rfl rfl (SeqR.done (tn ?_)))))))))
   refine CW.ret (tr (rr rfl (.cons rfl .nil) ?_))
   have hM1500 : (s_l27Ways p_0) = (false) := by simp only [s_l27Ways, hb16, cond_true, cond_false, loopE_done, loopE_ret]
   rw [hM1500]
   exact ⟨rfl, (Ex.trans (Ex.trans (Ex.refl w) hE14) hE1497)⟩
set_option maxRecDepth 100000 in
set_option maxHeartbeats 2000000 in
theorem c_s_l1All {A1 : Option Addr} {c1 : Nat} {w : World} (p_l : List Int) (p_lo : Int) (p_hi : Int) (h1 : RdS w (Iv 0 w.heap.size) (RF e_Int) 1 A1 p_l.length c1 p_l) (o2 : (okL okT) p_l) : Cal Tryz.prog 56 #[.slice A1 p_l.length c1, .int .i64 (p_lo), .int .i64 (p_hi)] w fun v w' => v = .bool ((s_l1All p_l p_lo p_hi)) ∧ Ex w w' := by
 have hol3 := o2.1
 refine Cal.of (vs := [.slice A1 p_l.length c1, .int .i64 (p_lo), .int .i64 (p_hi)]) Tryz.func56 rfl Tryz.ntmps56 rfl (CW.seq (CW.region (sd rfl (yl_assign rfl rfl (SeqR.done (tn (CW.seq (CW.seq (CW.region ?_)))))))))
 refine sd rfl (yl_move rfl rfl (sd rfl (yl_len Tryz.un23 rfl rfl (sd rfl (yl_move rfl rfl (SeqR.done (tn (CW.block (CW.loop (fun m5 L6 w7 => ∃ (k4 : Nat), m5 = p_l.length - k4 ∧ k4 ≤ p_l.length ∧ w.heap.size ≤ w7.heap.size ∧ lkp L6 1 = some (.int .i64 (p_lo)) ∧ lkp L6 2 = some (.int .i64 (p_hi)) ∧ lkp L6 9 = some (.slice A1 p_l.length c1) ∧ lkp L6 10 = some (.int .i64 ((p_l.length : Int))) ∧ lkp L6 11 = some (.int .i64 ((k4 : Int))) ∧ RdS w7 (Iv 0 w.heap.size) (RF e_Int) 1 A1 p_l.length c1 p_l ∧ Ex w w7 ∧ loopM (B_s_l1All_0 p_l p_lo p_hi) (p_l.length - k4) k4 () = loopM (B_s_l1All_0 p_l p_lo p_hi) (p_l.length - 0) 0 ()) (p_l.length - 0) ?_ ?_)))))))))
 ·exact ⟨0, rfl, (by omega), Nat.le_refl _, rfl, rfl, rfl, rfl, rfl, h1, (Ex.refl w), rfl⟩
 ·rintro m8 L9 w10 ⟨k4, rfl, hk11, hsz13, hl14, hl15, hl16, hl17, hl18, hf19, hf20, hI12⟩
  refine CW.sub (Sub.cons hl14 (Sub.cons hl15 (Sub.cons hl16 (Sub.cons hl17 (Sub.cons hl18 (Sub.nil _)))))) ?_
  have hf20z := Ex.size hf20
  have hbg21 := RdS.big hf19
  rcases Nat.lt_or_ge k4 p_l.length with hlt22 | hlt22
  ·refine CW.seq (CW.region (sd rfl (yl_lss rfl rfl rfl (SeqR.done (tn (CW.seq (CW.cond_t rfl (lt_t hlt22) (CW.skip (tn ?_)))))))))
   refine CW.seq (CW.block (CW.seq (CW.region ?_)))
   obtain ⟨eb23, eo23, ec23, eA23, eS23, ebl23, el23, eR23, eC23⟩ := RdS.atD hf19 d_Int (i := k4) (by first | omega | assumption)
   obtain rfl := eR23
   have eC23 : Cells w10 eb23 (eo23 + k4 * 1) [.int .i64 ((p_l.getD k4 d_Int))] := eC23
   refine sd rfl (yl_indexAddrN Tryz.un23 Tryz.ty3 rfl rfl rfl eA23 (by first | omega | assumption | (simp only [IntKind.wrap_i64] at *; omega)) (sd rfl (yl_load1 Tryz.ty3 rfl rfl (eC23 0 _ rfl) (sd rfl (yl_assign rfl rfl (SeqR.done (tn (CW.seq (CW.region (sd rfl (yl_move rfl rfl (sd rfl (yl_move rfl rfl ?_)))))))))))))
   refine sd rfl (yl_move rfl rfl (sd rfl (yl_call Tryz.en55 rfl (opvs_cons rfl (opvs_cons rfl (opvs_cons rfl opvs_nil))) (Cal.mono (c_s_l1In (p_l.getD k4 d_Int) p_lo p_hi) ?_))))
   rintro v25 w24 ⟨rfl, hE26⟩
   have hE26z := Ex.size hE26
   refine sd rfl (yl_not rfl rfl (SeqR.done (tn (bcase (s_l1In (p_l.getD k4 d_Int) p_lo p_hi) (fun hb27 => ?_) (fun hb27 => ?_)))))
   ·have hb27p := f_l1In hb27
    refine CW.cond_f rfl (not_t hb27) (CW.skip (bn (tn (CW.region (sd rfl (yl_inc rfl rfl rfl (by omega) (sd rfl (yl_move rfl rfl (SeqR.done (tn ?_))))))))))
    have hB28 : B_s_l1All_0 p_l p_lo p_hi k4 () = .cont () := by simp only [B_s_l1All_0, hb27, cond_true, cond_false, loopE_done, loopE_ret]
    exact ⟨p_l.length - (k4 + 1), by omega, k4 + 1, rfl, hlt22, (by omega), rfl, rfl, rfl, rfl, rfl, (RdS.ex good_Int hf19 hE26), (Ex.trans hf20 hE26), (loopM.cont hlt22 hB28).symm.trans hI12⟩
   ·refine CW.cond_t rfl (not_f hb27) (CW.seq (CW.region (sd rfl (yl_assign rfl rfl (SeqR.done (tn (CW.ret (br (tr ?_)))))))))
    refine tr ?_
    have hB32 : B_s_l1All_0 p_l p_lo p_hi k4 () = .ret false := by simp only [B_s_l1All_0, hb27, cond_true, cond_false, loopE_done, loopE_ret]
    have hL31 : loopM (B_s_l1All_0 p_l p_lo p_hi) (p_l.length - 0) 0 () = .ret false := hI12.symm.trans (loopM.ret hlt22 hB32)
    refine br (tr (rr rfl (.cons rfl .nil) ?_))
    have hM33 : (s_l1All p_l p_lo p_hi) = (false) := by simp only [s_l1All, hb27, hL31, cond_true, cond_false, loopE_done, loopE_ret]
    rw [hM33]
    exact ⟨rfl, (Ex.trans hf20 hE26)⟩
  ·refine CW.seq (CW.region (sd rfl (yl_lss rfl rfl rfl (SeqR.done (tn (CW.seq (CW.cond_f rfl (lt_f hlt22) (CW.exit (tx ?_)))))))))
   refine tx ?_
   have hL35 : loopM (B_s_l1All_0 p_l p_lo p_hi) (p_l.length - 0) 0 () = .done () := hI12.symm.trans (loopM.stop hlt22)
   refine bx (tn (CW.seq (CW.region (sd rfl (yl_assign rfl rfl (SeqR.done (tn (CW.ret (rr rfl (.cons rfl .nil) ?_)))))))))
   have hM36 : (s_l1All p_l p_lo p_hi) = (true) := by simp only [s_l1All, hL35, cond_true, cond_false, loopE_done, loopE_ret]
   rw [hM36]
   exact ⟨rfl, hf20⟩
set_option maxRecDepth 100000 in
set_option maxHeartbeats 2000000 in
theorem c_s_l3Bytes {w : World} (p_s : Str) (p_more : Str) (o1 : okS p_s) (o2 : okS p_more) : Cal Tryz.prog 142 #[.string (bs (p_s)), .string (bs (p_more))] w fun v w' => v = .bool ((s_l3Bytes p_s p_more)) ∧ Ex w w' := by
 have hol3 : p_s.length ≤ 1073741824 := o1
 have hol4 : p_more.length ≤ 1073741824 := o2
 refine Cal.of (vs := [.string (bs (p_s)), .string (bs (p_more))]) Tryz.func142 rfl Tryz.ntmps142 rfl (CW.seq (CW.region (sd rfl (yl_assign rfl rfl (SeqR.done (tn (CW.seq (CW.seq (CW.region ?_)))))))))
 refine sd rfl (yl_assign rfl rfl (SeqR.done (tn (CW.block (CW.loop (fun m6 L7 w8 => ∃ (k5 : Nat), m6 = p_s.length - k5 ∧ k5 ≤ p_s.length ∧ w.heap.size ≤ w8.heap.size ∧ lkp L7 0 = some (.string (bs (p_s))) ∧ lkp L7 1 = some (.string (bs (p_more))) ∧ lkp L7 5 = some (.int .i64 ((k5 : Int))) ∧ Ex w w8 ∧ loopM (B_s_l3Bytes_0 p_s p_more) (p_s.length - k5) k5 () = loopM (B_s_l3Bytes_0 p_s p_more) (p_s.length - 0) 0 ()) (p_s.length - 0) ?_ ?_)))))
 ·exact ⟨0, rfl, (by omega), Nat.le_refl _, rfl, rfl, rfl, (Ex.refl w), rfl⟩
 ·rintro m9 L10 w11 ⟨k5, rfl, hk12, hsz14, hl15, hl16, hl17, hf18, hI13⟩
  refine CW.sub (Sub.cons hl15 (Sub.cons hl16 (Sub.cons hl17 (Sub.nil _)))) ?_
  have hf18z := Ex.size hf18
  have hbg19 : p_s.length ≤ 1073741824 := o1
  rcases Nat.lt_or_ge k5 p_s.length with hlt20 | hlt20
  ·refine CW.seq (CW.seq (CW.region (sd rfl (yl_move rfl rfl (sd rfl (yl_move rfl rfl (sd rfl (yl_slen Tryz.un9 (a := p_s) rfl rfl (sd rfl (yl_lss rfl rfl rfl (SeqR.done (tn ?_))))))))))))
   refine CW.cond_t rfl (lt_t hlt20) (CW.skip (tn (CW.seq (CW.block (CW.seq (CW.region (sd rfl (yl_move rfl rfl (sd rfl (yl_move rfl rfl ?_))))))))))
   refine sd rfl (yl_sindexN Tryz.un9 (a := p_s) rfl rfl rfl (by first | omega | assumption | (simp only [IntKind.wrap_i64] at *; omega)) (sd rfl (yl_geq rfl rfl rfl (sd rfl (yl_move rfl rfl (bcase (decide (97 ≤ ((p_s.getD k5 0).toNat : Int))) (fun hb21 => ?_) (fun hb21 => ?_)))))))
   ·have hb21p := dec_t hb21
    refine sy rfl rfl hb21 (yl_move rfl rfl (sy rfl rfl hb21 (yl_move rfl rfl (sy rfl rfl hb21 (yl_sindexN Tryz.un9 (a := p_s) rfl rfl rfl (by first | omega | assumption | (simp only [IntKind.wrap_i64] at *; omega)) (sy rfl rfl hb21 (yl_leq rfl rfl rfl (sd rfl (yl_pick_t rfl rfl hb21 rfl (sd rfl (yl_move rfl rfl (bcase (decide (((p_s.getD k5 0).toNat : Int) ≤ 122)) (fun hb22 => ?_) (fun hb22 => ?_)))))))))))))
    ·have hb22p := dec_t hb22
     refine sz rfl rfl hb22 (sz rfl rfl hb22 (sz rfl rfl hb22 (sz rfl rfl hb22 (sz rfl rfl hb22 (sq rfl rfl (sq rfl rfl (sq rfl rfl (sq rfl rfl ?_))))))))
     refine sz rfl rfl hb22 (sd rfl (yl_pick_t rfl rfl hb22 rfl (sd rfl (yl_assign rfl rfl (SeqR.done (tn (CW.seq (CW.seq (CW.region (sd rfl (yl_assign rfl rfl ?_)))))))))))
     refine SeqR.done (tn (CW.block (CW.loop (fun m25 L26 w27 => ∃ (k23 : Nat) (x24 : Bool), m25 = p_more.length - k23 ∧ k23 ≤ p_more.length ∧ w11.heap.size ≤ w27.heap.size ∧ lkp L26 0 = some (.string (bs (p_s))) ∧ lkp L26 1 = some (.string (bs (p_more))) ∧ lkp L26 5 = some (.int .i64 ((k5 : Int))) ∧ lkp L26 6 = some (.bool (x24)) ∧ lkp L26 7 = some (.int .i64 ((k23 : Int))) ∧ lkp L26 19 = some (.string (bs (p_s))) ∧ lkp L26 20 = some (.int .i64 ((k5 : Int))) ∧ lkp L26 21 = some (.int .u8 (((p_s.getD k5 0).toNat : Int))) ∧ lkp L26 22 = some (.bool (decide (((p_s.getD k5 0).toNat : Int) ≤ 122))) ∧ lkp L26 25 = some (undef) ∧ lkp L26 26 = some (undef) ∧ lkp L26 27 = some (undef) ∧ lkp L26 28 = some (undef) ∧ lkp L26 29 = some (undef) ∧ lkp L26 30 = some (undef) ∧ lkp L26 31 = some (undef) ∧ lkp L26 32 = some (undef) ∧ lkp L26 33 = some (undef) ∧ lkp L26 34 = some (undef) ∧ Ex w w27 ∧ loopM (B_s_l3Bytes_1 p_s p_more k5) (p_more.length - k23) k23 (x24) = loopM (B_s_l3Bytes_1 p_s p_more k5) (p_more.length - 0) 0 (true)) (p_more.length - 0) ?_ ?_)))
     ·exact ⟨0, true, rfl, (by omega), Nat.le_refl _, rfl, rfl, rfl, rfl, rfl, rfl, rfl, rfl, rfl, rfl, rfl, rfl, rfl, rfl, rfl, rfl, rfl, rfl, rfl, hf18, rfl⟩
     ·rintro m28 L29 w30 ⟨k23, x24, rfl, hk31, hsz33, hl34, hl35, hl36, hl37, hl38, hl39, hl40, hl41, hl42, hl43, hl44, hl45, hl46, hl47, hl48, hl49, hl50, hl51, hl52, hf53, hI32⟩
      refine CW.sub (Sub.cons hl34 (Sub.cons hl35 (Sub.cons hl36 (Sub.cons hl37 (Sub.cons hl38 (Sub.cons hl39 (Sub.cons hl40 (Sub.cons hl41 (Sub.cons hl42 (Sub.cons hl43 (Sub.cons hl44 (Sub.cons hl45 (Sub.cons hl46 (Sub.cons hl47 (Sub.cons hl48 (Sub.cons hl49 (Sub.cons hl50 (Sub.cons hl51 (Sub.cons hl52 (Sub.nil _)))))))))))))))))))) ?_
      have hf53z := Ex.size hf53
      have hbg54 : p_more.length ≤ 1073741824 := o2
      rcases Nat.lt_or_ge k23 p_more.length with hlt55 | hlt55
      ·refine CW.seq (CW.seq (CW.region (sd rfl (yl_move rfl rfl (sd rfl (yl_move rfl rfl (sd rfl (yl_slen Tryz.un9 (a := p_more) rfl rfl (sd rfl (yl_lss rfl rfl rfl (SeqR.done (tn ?_))))))))))))
       refine CW.cond_t rfl (lt_t hlt55) (CW.skip (tn (CW.seq (CW.block (bcase (x24) (fun hb56 => ?_) (fun hb56 => ?_))))))
       ·refine CW.drawsI 11 (vgetI [DetI (.bool (x24)), DetI (.bool (x24)), DetI (undef), DetI (undef), DetI (undef), DetI (undef), DetI (undef), DetI (undef), DetI (undef), DetI (.bool (true)), DetI (.bool (true))]) Tryz.follows rfl rfl rfl rfl rfl rfl (vgetI_stable ⟨StableI.det _, StableI.det _, StableI.det _, StableI.det _, StableI.det _, StableI.det _, StableI.det _, StableI.det _, StableI.det _, StableI.det _, StableI.det _, trivial⟩) ⟨?_, ?_, ?_, ?_, ?_, ?_, ?_, ?_, ?_, ?_, ?_, trivial⟩ ?_
        ·exact fun _ _ h => os rfl ((yl_move rfl (h.old 6 _ rfl rfl) kI))
        ·exact fun _ _ h => os rfl ((yl_move rfl (h.dt 0 42 rfl rfl rfl) kI))
        ·exact fun _ _ h => OpR.skip rfl rfl (h.dt 1 43 rfl rfl rfl) hb56 ⟨rfl, Ex.refl _⟩
        ·exact fun _ _ h => OpR.skip rfl rfl (h.dt 1 43 rfl rfl rfl) hb56 ⟨rfl, Ex.refl _⟩
        ·exact fun _ _ h => OpR.skip rfl rfl (h.dt 1 43 rfl rfl rfl) hb56 ⟨rfl, Ex.refl _⟩
        ·exact fun _ _ h => OpR.skip rfl rfl (h.dt 1 43 rfl rfl rfl) hb56 ⟨rfl, Ex.refl _⟩
        ·exact fun _ _ h => OpR.skip rfl rfl (h.dt 1 43 rfl rfl rfl) hb56 ⟨rfl, Ex.refl _⟩
        ·exact fun _ _ h => OpR.skip rfl rfl (h.dt 1 43 rfl rfl rfl) hb56 ⟨rfl, Ex.refl _⟩
        ·exact fun _ _ h => OpR.skip rfl rfl (h.dt 1 43 rfl rfl rfl) hb56 ⟨rfl, Ex.refl _⟩
        ·exact fun _ _ h => os rfl ((yl_pick_t rfl (h.dt 1 43 rfl rfl rfl) hb56 rfl kI))
        ·exact fun _ _ h => os rfl ((yl_assign rfl (h.dt 9 51 rfl rfl rfl) kI))
        ·intro fl116 fh117 L113 w114 hp115
         have hE118 := hp115.ex
         have hE118z := Ex.size hE118
         refine SeqR.done (bn (tn (CW.sub (Sub.cons (d := 0) (hp115.old 0 _ rfl rfl) (Sub.cons (d := 1) (hp115.old 1 _ rfl rfl) (Sub.cons (d := 5) (hp115.old 5 _ rfl rfl) (Sub.cons (d := 6) (hp115.nt 10 6 rfl rfl rfl) (Sub.cons (d := 7) (hp115.old 7 _ rfl rfl) (Sub.cons (d := 19) (hp115.old 19 _ rfl rfl) (Sub.cons (d := 20) (hp115.old 20 _ rfl rfl) (Sub.cons (d := 21) (hp115.old 21 _ rfl rfl) (Sub.cons (d := 22) (hp115.old 22 _ rfl rfl) (Sub.cons (d := 25) (hp115.old 25 _ rfl rfl) (Sub.cons (d := 26) (hp115.old 26 _ rfl rfl) (Sub.cons (d := 27) (hp115.old 27 _ rfl rfl) (Sub.cons (d := 28) (hp115.old 28 _ rfl rfl) (Sub.cons (d := 29) (hp115.old 29 _ rfl rfl) (Sub.cons (d := 30) (hp115.old 30 _ rfl rfl) (Sub.cons (d := 31) (hp115.old 31 _ rfl rfl) (Sub.cons (d := 32) (hp115.old 32 _ rfl rfl) (Sub.cons (d := 33) (hp115.old 33 _ rfl rfl) (Sub.cons (d := 34) (hp115.old 34 _ rfl rfl) (Sub.cons (d := 44) (hp115.nt 2 44 rfl rfl rfl) (Sub.cons (d := 45) (hp115.nt 3 45 rfl rfl rfl) (Sub.cons (d := 46) (hp115.nt 4 46 rfl rfl rfl) (Sub.cons (d := 47) (hp115.nt 5 47 rfl rfl rfl) (Sub.cons (d := 48) (hp115.nt 6 48 rfl rfl rfl) (Sub.cons (d := 49) (hp115.nt 7 49 rfl rfl rfl) (Sub.cons (d := 50) (hp115.nt 8 50 rfl rfl rfl) (Sub.nil _))))))))))))))))))))))))))) (CW.region (sd rfl (yl_move rfl rfl (sd rfl (yl_inc rfl rfl rfl (by omega) (sd rfl (yl_assign rfl rfl (SeqR.done ?_)))))))))))
         refine tn ?_
         have hB145 : B_s_l3Bytes_1 p_s p_more k5 k23 (x24) = .cont (true) := by simp only [B_s_l3Bytes_1, hb21, hb22, hb56, cond_true, cond_false, loopE_done, loopE_ret]
         exact ⟨p_more.length - (k23 + 1), by omega, k23 + 1, true, rfl, hlt55, (by omega), rfl, rfl, rfl, rfl, rfl, rfl, rfl, rfl, rfl, rfl, rfl, rfl, rfl, rfl, rfl, rfl, rfl, rfl, rfl, (Ex.trans hf53 hE118), (loopM.cont hlt55 hB145).symm.trans hI32⟩
       ·refine CW.drawsI 11 (vgetI [DetI (.bool (x24)), DetI (.bool (x24)), DetI (.string (bs (p_s))), DetI (.int .i64 ((k5 : Int))), DetI (.int .u8 (((p_s.getD k5 0).toNat : Int))), DetI (.string (bs (p_more))), DetI (.int .i64 ((k23 : Int))), DetI (.int .u8 (((p_more.getD k23 0).toNat : Int))), DetI (.bool (decide (((p_s.getD k5 0).toNat : Int) = ((p_more.getD k23 0).toNat : Int)))), DetI (.bool (decide (((p_s.getD k5 0).toNat : Int) = ((p_more.getD k23 0).toNat : Int)))), DetI (.bool (decide (((p_s.getD k5 0).toNat : Int) = ((p_more.getD k23 0).toNat : Int))))]) Tryz.follows rfl rfl rfl rfl rfl rfl (vgetI_stable ⟨StableI.det _, StableI.det _, StableI.det _, StableI.det _, StableI.det _, StableI.det _, StableI.det _, StableI.det _, StableI.det _, StableI.det _, StableI.det _, trivial⟩) ⟨?_, ?_, ?_, ?_, ?_, ?_, ?_, ?_, ?_, ?_, ?_, trivial⟩ ?_
        ·exact fun _ _ h => os rfl ((yl_move rfl (h.old 6 _ rfl rfl) kI))
        ·exact fun _ _ h => os rfl ((yl_move rfl (h.dt 0 42 rfl rfl rfl) kI))
        ·exact fun _ _ h => OpR.want rfl rfl (h.dt 1 43 rfl rfl rfl) hb56 (Yl.sameI (yl_move rfl (h.old 0 _ rfl rfl) kI))
        ·exact fun _ _ h => OpR.want rfl rfl (h.dt 1 43 rfl rfl rfl) hb56 (Yl.sameI (yl_move rfl (h.old 5 _ rfl rfl) kI))
        ·intro L169 w170 hi171
         have hE172 := hi171.ex
         have hE172z := Ex.size hE172
         exact OpR.want rfl rfl (hi171.dt 1 43 rfl rfl rfl) hb56 (Yl.sameI (yl_sindexN Tryz.un9 (a := p_s) rfl (hi171.dt 2 44 rfl rfl rfl) (hi171.dt 3 45 rfl rfl rfl) (by first | omega | assumption | (simp only [IntKind.wrap_i64] at *; omega)) kI))
        ·exact fun _ _ h => OpR.want rfl rfl (h.dt 1 43 rfl rfl rfl) hb56 (Yl.sameI (yl_move rfl (h.old 1 _ rfl rfl) kI))
        ·exact fun _ _ h => OpR.want rfl rfl (h.dt 1 43 rfl rfl rfl) hb56 (Yl.sameI (yl_move rfl (h.old 7 _ rfl rfl) kI))
        ·intro L188 w189 hi190
         have hE191 := hi190.ex
         have hE191z := Ex.size hE191
         exact OpR.want rfl rfl (hi190.dt 1 43 rfl rfl rfl) hb56 (Yl.sameI (yl_sindexN Tryz.un9 (a := p_more) rfl (hi190.dt 5 47 rfl rfl rfl) (hi190.dt 6 48 rfl rfl rfl) (by first | omega | assumption | (simp only [IntKind.wrap_i64] at *; omega)) kI))
        ·exact fun _ _ h => OpR.want rfl rfl (h.dt 1 43 rfl rfl rfl) hb56 (Yl.sameI (yl_eql rfl (h.dt 4 46 rfl rfl rfl) (h.dt 7 49 rfl rfl rfl) kI))
        ·exact fun _ _ h => os rfl ((yl_pick_f rfl (h.dt 1 43 rfl rfl rfl) hb56 (h.dt 8 50 rfl rfl rfl) kI))
        ·exact fun _ _ h => os rfl ((yl_assign rfl (h.dt 9 51 rfl rfl rfl) kI))
        ·intro fl216 fh217 L213 w214 hp215
         have hE218 := hp215.ex
         have hE218z := Ex.size hE218
         refine SeqR.done (bn (tn (CW.sub (Sub.cons (d := 0) (hp215.old 0 _ rfl rfl) (Sub.cons (d := 1) (hp215.old 1 _ rfl rfl) (Sub.cons (d := 5) (hp215.old 5 _ rfl rfl) (Sub.cons (d := 6) (hp215.nt 10 6 rfl rfl rfl) (Sub.cons (d := 7) (hp215.old 7 _ rfl rfl) (Sub.cons (d := 19) (hp215.old 19 _ rfl rfl) (Sub.cons (d := 20) (hp215.old 20 _ rfl rfl) (Sub.cons (d := 21) (hp215.old 21 _ rfl rfl) (Sub.cons (d := 22) (hp215.old 22 _ rfl rfl) (Sub.cons (d := 25) (hp215.old 25 _ rfl rfl) (Sub.cons (d := 26) (hp215.old 26 _ rfl rfl) (Sub.cons (d := 27) (hp215.old 27 _ rfl rfl) (Sub.cons (d := 28) (hp215.old 28 _ rfl rfl) (Sub.cons (d := 29) (hp215.old 29 _ rfl rfl) (Sub.cons (d := 30) (hp215.old 30 _ rfl rfl) (Sub.cons (d := 31) (hp215.old 31 _ rfl rfl) (Sub.cons (d := 32) (hp215.old 32 _ rfl rfl) (Sub.cons (d := 33) (hp215.old 33 _ rfl rfl) (Sub.cons (d := 34) (hp215.old 34 _ rfl rfl) (Sub.cons (d := 44) (hp215.nt 2 44 rfl rfl rfl) (Sub.cons (d := 45) (hp215.nt 3 45 rfl rfl rfl) (Sub.cons (d := 46) (hp215.nt 4 46 rfl rfl rfl) (Sub.cons (d := 47) (hp215.nt 5 47 rfl rfl rfl) (Sub.cons (d := 48) (hp215.nt 6 48 rfl rfl rfl) (Sub.cons (d := 49) (hp215.nt 7 49 rfl rfl rfl) (Sub.cons (d := 50) (hp215.nt 8 50 rfl rfl rfl) (Sub.nil _))))))))))))))))))))))))))) (CW.region (sd rfl (yl_move rfl rfl (sd rfl (yl_inc rfl rfl rfl (by omega) (sd rfl (yl_assign rfl rfl (SeqR.done ?_)))))))))))
         refine tn ?_
         have hB245 : B_s_l3Bytes_1 p_s p_more k5 k23 (x24) = .cont (decide (((p_s.getD k5 0).toNat : Int) = ((p_more.getD k23 0).toNat : Int))) := by simp only [B_s_l3Bytes_1, hb21, hb22, hb56, cond_true, cond_false, loopE_done, loopE_ret]
         exact ⟨p_more.length - (k23 + 1), by omega, k23 + 1, decide (((p_s.getD k5 0).toNat : Int) = ((p_more.getD k23 0).toNat : Int)), rfl, hlt55, (by omega), rfl, rfl, rfl, rfl, rfl, rfl, rfl, rfl, rfl, rfl, rfl, rfl, rfl, rfl, rfl, rfl, rfl, rfl, rfl, (Ex.trans hf53 hE218), (loopM.cont hlt55 hB245).symm.trans hI32⟩
      ·refine CW.seq (CW.seq (CW.region (sd rfl (yl_move rfl rfl (sd rfl (yl_move rfl rfl (sd rfl (yl_slen Tryz.un9 (a := p_more) rfl rfl (sd rfl (yl_lss rfl rfl rfl (SeqR.done (tn ?_))))))))))))
       refine CW.cond_f rfl (lt_f hlt55) (CW.exit (tx (tx ?_)))
       have hL247 : loopM (B_s_l3Bytes_1 p_s p_more k5) (p_more.length - 0) 0 (true) = .done (x24) := hI32.symm.trans (loopM.stop hlt55)
       refine bx (tn (CW.seq (CW.region (sd rfl (yl_move rfl rfl (sd rfl (yl_not rfl rfl (SeqR.done (tn (bcase (x24) (fun hb248 => ?_) (fun hb248 => ?_)))))))))))
       ·refine CW.cond_f rfl (not_t hb248) (CW.skip (bn (tn (CW.region (sd rfl (yl_move rfl rfl (sd rfl (yl_inc rfl rfl rfl (by omega) (sd rfl (yl_assign rfl rfl (SeqR.done ?_)))))))))))
        refine tn ?_
        have hB249 : B_s_l3Bytes_0 p_s p_more k5 () = .cont () := by simp only [B_s_l3Bytes_0, hb21, hb22, hb248, hL247, cond_true, cond_false, loopE_done, loopE_ret]
        exact ⟨p_s.length - (k5 + 1), by omega, k5 + 1, rfl, hlt20, (by omega), rfl, rfl, rfl, hf53, (loopM.cont hlt20 hB249).symm.trans hI13⟩
       ·refine CW.cond_t rfl (not_f hb248) (CW.seq (CW.region (sd rfl (yl_assign rfl rfl (SeqR.done (tn (CW.ret (br (tr ?_)))))))))
        refine tr ?_
        have hB251 : B_s_l3Bytes_0 p_s p_more k5 () = .ret false := by simp only [B_s_l3Bytes_0, hb21, hb22, hb248, hL247, cond_true, cond_false, loopE_done, loopE_ret]
        have hL250 : loopM (B_s_l3Bytes_0 p_s p_more) (p_s.length - 0) 0 () = .ret false := hI13.symm.trans (loopM.ret hlt20 hB251)
        refine br (tr (rr rfl (.cons rfl .nil) ?_))
        have hM252 : (s_l3Bytes p_s p_more) = (false) := by simp only [s_l3Bytes, hb21, hb22, hb248, hL247, hL250, cond_true, cond_false, loopE_done, loopE_ret]
        rw [hM252]
        exact ⟨rfl, hf53⟩
    ·have hb22p := dec_f hb22
     refine sy rfl rfl hb22 (yl_move rfl rfl (sy rfl rfl hb22 (yl_move rfl rfl (sy rfl rfl hb22 (yl_sindexN Tryz.un9 (a := p_s) rfl rfl rfl (by first | omega | assumption | (simp only [IntKind.wrap_i64] at *; omega)) (sy rfl rfl hb22 (yl_geq rfl rfl rfl (sy rfl rfl hb22 (yl_move rfl rfl (bcase (decide (48 ≤ ((p_s.getD k5 0).toNat : Int))) (fun hb253 => ?_) (fun hb253 => ?_)))))))))))
     ·have hb253p := dec_t hb253
      refine sy rfl rfl hb253 (yl_move rfl rfl (sy rfl rfl hb253 (yl_move rfl rfl (sy rfl rfl hb253 (yl_sindexN Tryz.un9 (a := p_s) rfl rfl rfl (by first | omega | assumption | (simp only [IntKind.wrap_i64] at *; omega)) (sy rfl rfl hb253 (yl_leq rfl rfl rfl (sy rfl rfl hb22 (yl_pick_t rfl rfl hb253 rfl (sd rfl (yl_pick_f rfl rfl hb22 rfl (sd rfl (yl_assign rfl rfl (SeqR.done (tn ?_)))))))))))))))
      refine CW.seq (CW.seq (CW.region (sd rfl (yl_assign rfl rfl (SeqR.done (tn (CW.block (CW.loop (fun m256 L257 w258 => ∃ (k254 : Nat) (x255 : Bool), m256 = p_more.length - k254 ∧ k254 ≤ p_more.length ∧ w11.heap.size ≤ w258.heap.size ∧ lkp L257 0 = some (.string (bs (p_s))) ∧ lkp L257 1 = some (.string (bs (p_more))) ∧ lkp L257 5 = some (.int .i64 ((k5 : Int))) ∧ lkp L257 6 = some (.bool (x255)) ∧ lkp L257 7 = some (.int .i64 ((k254 : Int))) ∧ lkp L257 19 = some (.string (bs (p_s))) ∧ lkp L257 20 = some (.int .i64 ((k5 : Int))) ∧ lkp L257 21 = some (.int .u8 (((p_s.getD k5 0).toNat : Int))) ∧ lkp L257 22 = some (.bool (decide (((p_s.getD k5 0).toNat : Int) ≤ 122))) ∧ lkp L257 25 = some (.string (bs (p_s))) ∧ lkp L257 26 = some (.int .i64 ((k5 : Int))) ∧ lkp L257 27 = some (.int .u8 (((p_s.getD k5 0).toNat : Int))) ∧ lkp L257 28 = some (.bool (decide (48 ≤ ((p_s.getD k5 0).toNat : Int)))) ∧ lkp L257 29 = some (.bool (decide (48 ≤ ((p_s.getD k5 0).toNat : Int)))) ∧ lkp L257 30 = some (.string (bs (p_s))) ∧ lkp L257 31 = some (.int .i64 ((k5 : Int))) ∧ lkp L257 32 = some (.int .u8 (((p_s.getD k5 0).toNat : Int))) ∧ lkp L257 33 = some (.bool (decide (((p_s.getD k5 0).toNat : Int) ≤ 57))) ∧ lkp L257 34 = some (.bool (decide (((p_s.getD k5 0).toNat : Int) ≤ 57))) ∧ Ex w w258 ∧ loopM (B_s_l3Bytes_1 p_s p_more k5) (p_more.length - k254) k254 (x255) = loopM (B_s_l3Bytes_1 p_s p_more k5) (p_more.length - 0) 0 (decide (((p_s.getD k5 0).toNat : Int) ≤ 57))) (p_more.length - 0) ?_ ?_))))))))
      ·exact ⟨0, decide (((p_s.getD k5 0).toNat : Int) ≤ 57), rfl, (by omega), Nat.le_refl _, rfl, rfl, rfl, rfl, rfl, rfl, rfl, rfl, rfl, rfl, rfl, rfl, rfl, rfl, rfl, rfl, rfl, rfl, rfl, hf18, rfl⟩
      ·rintro m259 L260 w261 ⟨k254, x255, rfl, hk262, hsz264, hl265, hl266, hl267, hl268, hl269, hl270, hl271, hl272, hl273, hl274, hl275, hl276, hl277, hl278, hl279, hl280, hl281, hl282, hl283, hf284, hI263⟩
       refine CW.sub (Sub.cons hl265 (Sub.cons hl266 (Sub.cons hl267 (Sub.cons hl268 (Sub.cons hl269 (Sub.cons hl270 (Sub.cons hl271 (Sub.cons hl272 (Sub.cons hl273 (Sub.cons hl274 (Sub.cons hl275 (Sub.cons hl276 (Sub.cons hl277 (Sub.cons hl278 (Sub.cons hl279 (Sub.cons hl280 (Sub.cons hl281 (Sub.cons hl282 (Sub.cons hl283 (Sub.nil _)))))))))))))))))))) ?_
       have hf284z := Ex.size hf284
       have hbg285 : p_more.length ≤ 1073741824 := o2
       rcases Nat.lt_or_ge k254 p_more.length with hlt286 | hlt286
       ·refine CW.seq (CW.seq (CW.region (sd rfl (yl_move rfl rfl (sd rfl (yl_move rfl rfl (sd rfl (yl_slen Tryz.un9 (a := p_more) rfl rfl (sd rfl (yl_lss rfl rfl rfl (SeqR.done (tn ?_))))))))))))
        refine CW.cond_t rfl (lt_t hlt286) (CW.skip (tn (CW.seq (CW.block (bcase (x255) (fun hb287 => ?_) (fun hb287 => ?_))))))
        ·refine CW.drawsI 11 (vgetI [DetI (.bool (x255)), DetI (.bool (x255)), DetI (undef), DetI (undef), DetI (undef), DetI (undef), DetI (undef), DetI (undef), DetI (undef), DetI (.bool (true)), DetI (.bool (true))]) Tryz.follows rfl rfl rfl rfl rfl rfl (vgetI_stable ⟨StableI.det _, StableI.det _, StableI.det _, StableI.det _, StableI.det _, StableI.det _, StableI.det _, StableI.det _, StableI.det _, StableI.det _, StableI.det _, trivial⟩) ⟨?_, ?_, ?_, ?_, ?_, ?_, ?_, ?_, ?_, ?_, ?_, trivial⟩ ?_
         ·exact fun _ _ h => os rfl ((yl_move rfl (h.old 6 _ rfl rfl) kI))
         ·exact fun _ _ h => os rfl ((yl_move rfl (h.dt 0 42 rfl rfl rfl) kI))
         ·exact fun _ _ h => OpR.skip rfl rfl (h.dt 1 43 rfl rfl rfl) hb287 ⟨rfl, Ex.refl _⟩
         ·exact fun _ _ h => OpR.skip rfl rfl (h.dt 1 43 rfl rfl rfl) hb287 ⟨rfl, Ex.refl _⟩
         ·exact fun _ _ h => OpR.skip rfl rfl (h.dt 1 43 rfl rfl rfl) hb287 ⟨rfl, Ex.refl _⟩
         ·exact fun _ _ h => OpR.skip rfl rfl (h.dt 1 43 rfl rfl rfl) hb287 ⟨rfl, Ex.refl _⟩
         ·exact fun _ _ h => OpR.skip rfl rfl (h.dt 1 43 rfl rfl rfl) hb287 ⟨rfl, Ex.refl _⟩
         ·exact fun _ _ h => OpR.skip rfl rfl (h.dt 1 43 rfl rfl rfl) hb287 ⟨rfl, Ex.refl _⟩
         ·exact fun _ _ h => OpR.skip rfl rfl (h.dt 1 43 rfl rfl rfl) hb287 ⟨rfl, Ex.refl _⟩
         ·exact fun _ _ h => os rfl ((yl_pick_t rfl (h.dt 1 43 rfl rfl rfl) hb287 rfl kI))
         ·exact fun _ _ h => os rfl ((yl_assign rfl (h.dt 9 51 rfl rfl rfl) kI))
         ·intro fl347 fh348 L344 w345 hp346
          have hE349 := hp346.ex
          have hE349z := Ex.size hE349
          refine SeqR.done (bn (tn (CW.sub (Sub.cons (d := 0) (hp346.old 0 _ rfl rfl) (Sub.cons (d := 1) (hp346.old 1 _ rfl rfl) (Sub.cons (d := 5) (hp346.old 5 _ rfl rfl) (Sub.cons (d := 6) (hp346.nt 10 6 rfl rfl rfl) (Sub.cons (d := 7) (hp346.old 7 _ rfl rfl) (Sub.cons (d := 19) (hp346.old 19 _ rfl rfl) (Sub.cons (d := 20) (hp346.old 20 _ rfl rfl) (Sub.cons (d := 21) (hp346.old 21 _ rfl rfl) (Sub.cons (d := 22) (hp346.old 22 _ rfl rfl) (Sub.cons (d := 25) (hp346.old 25 _ rfl rfl) (Sub.cons (d := 26) (hp346.old 26 _ rfl rfl) (Sub.cons (d := 27) (hp346.old 27 _ rfl rfl) (Sub.cons (d := 28) (hp346.old 28 _ rfl rfl) (Sub.cons (d := 29) (hp346.old 29 _ rfl rfl) (Sub.cons (d := 30) (hp346.old 30 _ rfl rfl) (Sub.cons (d := 31) (hp346.old 31 _ rfl rfl) (Sub.cons (d := 32) (hp346.old 32 _ rfl rfl) (Sub.cons (d := 33) (hp346.old 33 _ rfl rfl) (Sub.cons (d := 34) (hp346.old 34 _ rfl rfl) (Sub.cons (d := 44) (hp346.nt 2 44 rfl rfl rfl) (Sub.cons (d := 45) (hp346.nt 3 45 rfl rfl rfl) (Sub.cons (d := 46) (hp346.nt 4 46 rfl rfl rfl) (Sub.cons (d := 47) (hp346.nt 5 47 rfl rfl rfl) (Sub.cons (d := 48) (hp346.nt 6 48 rfl rfl rfl) (Sub.cons (d := 49) (hp346.nt 7 49 rfl rfl rfl) (Sub.cons (d := 50) (hp346.nt 8 50 rfl rfl rfl) (Sub.nil _))))))))))))))))))))))))))) (CW.region (sd rfl (yl_move rfl rfl (sd rfl (yl_inc rfl rfl rfl (by omega) (sd rfl (yl_assign rfl rfl (SeqR.done ?_)))))))))))
          refine tn ?_
          have hB376 : B_s_l3Bytes_1 p_s p_more k5 k254 (x255) = .cont (true) := by simp only [B_s_l3Bytes_1, hb21, hb22, hb253, hb287, cond_true, cond_false, loopE_done, loopE_ret]
          exact ⟨p_more.length - (k254 + 1), by omega, k254 + 1, true, rfl, hlt286, (by omega), rfl, rfl, rfl, rfl, rfl, rfl, rfl, rfl, rfl, rfl, rfl, rfl, rfl, rfl, rfl, rfl, rfl, rfl, rfl, (Ex.trans hf284 hE349), (loopM.cont hlt286 hB376).symm.trans hI263⟩
        ·refine CW.drawsI 11 (vgetI [DetI (.bool (x255)), DetI (.bool (x255)), DetI (.string (bs (p_s))), DetI (.int .i64 ((k5 : Int))), DetI (.int .u8 (((p_s.getD k5 0).toNat : Int))), DetI (.string (bs (p_more))), DetI (.int .i64 ((k254 : Int))), DetI (.int .u8 (((p_more.getD k254 0).toNat : Int))), DetI (.bool (decide (((p_s.getD k5 0).toNat : Int) = ((p_more.getD k254 0).toNat : Int)))), DetI (.bool (decide (((p_s.getD k5 0).toNat : Int) = ((p_more.getD k254 0).toNat : Int)))), DetI (.bool (decide (((p_s.getD k5 0).toNat : Int) = ((p_more.getD k254 0).toNat : Int))))]) Tryz.follows rfl rfl rfl rfl rfl rfl (vgetI_stable ⟨StableI.det _, StableI.det _, StableI.det _, StableI.det _, StableI.det _, StableI.det _, StableI.det _, StableI.det _, StableI.det _, StableI.det _, StableI.det _, trivial⟩) ⟨?_, ?_, ?_, ?_, ?_, ?_, ?_, ?_, ?_, ?_, ?_, trivial⟩ ?_
         ·exact fun _ _ h => os rfl ((yl_move rfl (h.old 6 _ rfl rfl) kI))
         ·exact fun _ _ h => os rfl ((yl_move rfl (h.dt 0 42 rfl rfl rfl) kI))
         ·exact fun _ _ h => OpR.want rfl rfl (h.dt 1 43 rfl rfl rfl) hb287 (Yl.sameI (yl_move rfl (h.old 0 _ rfl rfl) kI))
         ·exact fun _ _ h => OpR.want rfl rfl (h.dt 1 43 rfl rfl rfl) hb287 (Yl.sameI (yl_move rfl (h.old 5 _ rfl rfl) kI))
         ·intro L400 w401 hi402
          have hE403 := hi402.ex
          have hE403z := Ex.size hE403
          exact OpR.want rfl rfl (hi402.dt 1 43 rfl rfl rfl) hb287 (Yl.sameI (yl_sindexN Tryz.un9 (a := p_s) rfl (hi402.dt 2 44 rfl rfl rfl) (hi402.dt 3 45 rfl rfl rfl) (by first | omega | assumption | (simp only [IntKind.wrap_i64] at *; omega)) kI))
         ·exact fun _ _ h => OpR.want rfl rfl (h.dt 1 43 rfl rfl rfl) hb287 (Yl.sameI (yl_move rfl (h.old 1 _ rfl rfl) kI))
         ·exact fun _ _ h => OpR.want rfl rfl (h.dt 1 43 rfl rfl rfl) hb287 (Yl.sameI (yl_move rfl (h.old 7 _ rfl rfl) kI))
         ·intro L419 w420 hi421
          have hE422 := hi421.ex
          have hE422z := Ex.size hE422
          exact OpR.want rfl rfl (hi421.dt 1 43 rfl rfl rfl) hb287 (Yl.sameI (yl_sindexN Tryz.un9 (a := p_more) rfl (hi421.dt 5 47 rfl rfl rfl) (hi421.dt 6 48 rfl rfl rfl) (by first | omega | assumption | (simp only [IntKind.wrap_i64] at *; omega)) kI))
         ·exact fun _ _ h => OpR.want rfl rfl (h.dt 1 43 rfl rfl rfl) hb287 (Yl.sameI (yl_eql rfl (h.dt 4 46 rfl rfl rfl) (h.dt 7 49 rfl rfl rfl) kI))
         ·exact fun _ _ h => os rfl ((yl_pick_f rfl (h.dt 1 43 rfl rfl rfl) hb287 (h.dt 8 50 rfl rfl rfl) kI))
         ·exact fun _ _ h => os rfl ((yl_assign rfl (h.dt 9 51 rfl rfl rfl) kI))
         ·intro fl447 fh448 L444 w445 hp446
          have hE449 := hp446.ex
          have hE449z := Ex.size hE449
          refine SeqR.done (bn (tn (CW.sub (Sub.cons (d := 0) (hp446.old 0 _ rfl rfl) (Sub.cons (d := 1) (hp446.old 1 _ rfl rfl) (Sub.cons (d := 5) (hp446.old 5 _ rfl rfl) (Sub.cons (d := 6) (hp446.nt 10 6 rfl rfl rfl) (Sub.cons (d := 7) (hp446.old 7 _ rfl rfl) (Sub.cons (d := 19) (hp446.old 19 _ rfl rfl) (Sub.cons (d := 20) (hp446.old 20 _ rfl rfl) (Sub.cons (d := 21) (hp446.old 21 _ rfl rfl) (Sub.cons (d := 22) (hp446.old 22 _ rfl rfl) (Sub.cons (d := 25) (hp446.old 25 _ rfl rfl) (Sub.cons (d := 26) (hp446.old 26 _ rfl rfl) (Sub.cons (d := 27) (hp446.old 27 _ rfl rfl) (Sub.cons (d := 28) (hp446.old 28 _ rfl rfl) (Sub.cons (d := 29) (hp446.old 29 _ rfl rfl) (Sub.cons (d := 30) (hp446.old 30 _ rfl rfl) (Sub.cons (d := 31) (hp446.old 31 _ rfl rfl) (Sub.cons (d := 32) (hp446.old 32 _ rfl rfl) (Sub.cons (d := 33) (hp446.old 33 _ rfl rfl) (Sub.cons (d := 34) (hp446.old 34 _ rfl rfl) (Sub.cons (d := 44) (hp446.nt 2 44 rfl rfl rfl) (Sub.cons (d := 45) (hp446.nt 3 45 rfl rfl rfl) (Sub.cons (d := 46) (hp446.nt 4 46 rfl rfl rfl) (Sub.cons (d := 47) (hp446.nt 5 47 rfl rfl rfl) (Sub.cons (d := 48) (hp446.nt 6 48 rfl rfl rfl) (Sub.cons (d := 49) (hp446.nt 7 49 rfl rfl rfl) (Sub.cons (d := 50) (hp446.nt 8 50 rfl rfl rfl) (Sub.nil _))))))))))))))))))))))))))) (CW.region (sd rfl (yl_move rfl rfl (sd rfl (yl_inc rfl rfl rfl (by omega) (sd rfl (yl_assign rfl rfl (SeqR.done ?_)))))))))))
          refine tn ?_
          have hB476 : B_s_l3Bytes_1 p_s p_more k5 k254 (x255) = .cont (decide (((p_s.getD k5 0).toNat : Int) = ((p_more.getD k254 0).toNat : Int))) := by simp only [B_s_l3Bytes_1, hb21, hb22, hb253, hb287, cond_true, cond_false, loopE_done, loopE_ret]
          exact ⟨p_more.length - (k254 + 1), by omega, k254 + 1, decide (((p_s.getD k5 0).toNat : Int) = ((p_more.getD k254 0).toNat : Int)), rfl, hlt286, (by omega), rfl, rfl, rfl, rfl, rfl, rfl, rfl, rfl, rfl, rfl, rfl, rfl, rfl, rfl, rfl, rfl, rfl, rfl, rfl, (Ex.trans hf284 hE449), (loopM.cont hlt286 hB476).symm.trans hI263⟩
       ·refine CW.seq (CW.seq (CW.region (sd rfl (yl_move rfl rfl (sd rfl (yl_move rfl rfl (sd rfl (yl_slen Tryz.un9 (a := p_more) rfl rfl (sd rfl (yl_lss rfl rfl rfl (SeqR.done (tn ?_))))))))))))
        refine CW.cond_f rfl (lt_f hlt286) (CW.exit (tx (tx ?_)))
        have hL478 : loopM (B_s_l3Bytes_1 p_s p_more k5) (p_more.length - 0) 0 (decide (((p_s.getD k5 0).toNat : Int) ≤ 57)) = .done (x255) := hI263.symm.trans (loopM.stop hlt286)
        refine bx (tn (CW.seq (CW.region (sd rfl (yl_move rfl rfl (sd rfl (yl_not rfl rfl (SeqR.done (tn (bcase (x255) (fun hb479 => ?_) (fun hb479 => ?_)))))))))))
        ·refine CW.cond_f rfl (not_t hb479) (CW.skip (bn (tn (CW.region (sd rfl (yl_move rfl rfl (sd rfl (yl_inc rfl rfl rfl (by omega) (sd rfl (yl_assign rfl rfl (SeqR.done ?_)))))))))))
         refine tn ?_
         have hB480 : B_s_l3Bytes_0 p_s p_more k5 () = .cont () := by simp only [B_s_l3Bytes_0, hb21, hb22, hb253, hb479, hL478, cond_true, cond_false, loopE_done, loopE_ret]
         exact ⟨p_s.length - (k5 + 1), by omega, k5 + 1, rfl, hlt20, (by omega), rfl, rfl, rfl, hf284, (loopM.cont hlt20 hB480).symm.trans hI13⟩
        ·refine CW.cond_t rfl (not_f hb479) (CW.seq (CW.region (sd rfl (yl_assign rfl rfl (SeqR.done (tn (CW.ret (br (tr ?_)))))))))
         refine tr ?_
         have hB482 : B_s_l3Bytes_0 p_s p_more k5 () = .ret false := by simp only [B_s_l3Bytes_0, hb21, hb22, hb253, hb479, hL478, cond_true, cond_false, loopE_done, loopE_ret]
         have hL481 : loopM (B_s_l3Bytes_0 p_s p_more) (p_s.length - 0) 0 () = .ret false := hI13.symm.trans (loopM.ret hlt20 hB482)
         refine br (tr (rr rfl (.cons rfl .nil) ?_))
         have hM483 : (s_l3Bytes p_s p_more) = (false) := by simp only [s_l3Bytes, hb21, hb22, hb253, hb479, hL478, hL481, cond_true, cond_false, loopE_done, loopE_ret]
         rw [hM483]
         exact ⟨rfl, hf284⟩
     ·have hb253p := dec_f hb253
      refine sz rfl rfl hb253 (sz rfl rfl hb253 (sz rfl rfl hb253 (sz rfl rfl hb253 (sy rfl rfl hb22 (yl_pick_f rfl rfl hb253 rfl (sd rfl (yl_pick_f rfl rfl hb22 rfl (sd rfl (yl_assign rfl rfl (SeqR.done (tn ?_)))))))))))
      refine CW.seq (CW.seq (CW.region (sd rfl (yl_assign rfl rfl (SeqR.done (tn (CW.block (CW.loop (fun m486 L487 w488 => ∃ (k484 : Nat) (x485 : Bool), m486 = p_more.length - k484 ∧ k484 ≤ p_more.length ∧ w11.heap.size ≤ w488.heap.size ∧ lkp L487 0 = some (.string (bs (p_s))) ∧ lkp L487 1 = some (.string (bs (p_more))) ∧ lkp L487 5 = some (.int .i64 ((k5 : Int))) ∧ lkp L487 6 = some (.bool (x485)) ∧ lkp L487 7 = some (.int .i64 ((k484 : Int))) ∧ lkp L487 19 = some (.string (bs (p_s))) ∧ lkp L487 20 = some (.int .i64 ((k5 : Int))) ∧ lkp L487 21 = some (.int .u8 (((p_s.getD k5 0).toNat : Int))) ∧ lkp L487 22 = some (.bool (decide (((p_s.getD k5 0).toNat : Int) ≤ 122))) ∧ lkp L487 25 = some (.string (bs (p_s))) ∧ lkp L487 26 = some (.int .i64 ((k5 : Int))) ∧ lkp L487 27 = some (.int .u8 (((p_s.getD k5 0).toNat : Int))) ∧ lkp L487 28 = some (.bool (decide (48 ≤ ((p_s.getD k5 0).toNat : Int)))) ∧ lkp L487 29 = some (.bool (decide (48 ≤ ((p_s.getD k5 0).toNat : Int)))) ∧ lkp L487 30 = some (undef) ∧ lkp L487 31 = some (undef) ∧ lkp L487 32 = some (undef) ∧ lkp L487 33 = some (undef) ∧ lkp L487 34 = some (.bool (false)) ∧ Ex w w488 ∧ loopM (B_s_l3Bytes_1 p_s p_more k5) (p_more.length - k484) k484 (x485) = loopM (B_s_l3Bytes_1 p_s p_more k5) (p_more.length - 0) 0 (false)) (p_more.length - 0) ?_ ?_))))))))
      ·exact ⟨0, false, rfl, (by omega), Nat.le_refl _, rfl, rfl, rfl, rfl, rfl, rfl, rfl, rfl, rfl, rfl, rfl, rfl, rfl, rfl, rfl, rfl, rfl, rfl, rfl, hf18, rfl⟩
      ·rintro m489 L490 w491 ⟨k484, x485, rfl, hk492, hsz494, hl495, hl496, hl497, hl498, hl499, hl500, hl501, hl502, hl503, hl504, hl505, hl506, hl507, hl508, hl509, hl510, hl511, hl512, hl513, hf514, hI493⟩
       refine CW.sub (Sub.cons hl495 (Sub.cons hl496 (Sub.cons hl497 (Sub.cons hl498 (Sub.cons hl499 (Sub.cons hl500 (Sub.cons hl501 (Sub.cons hl502 (Sub.cons hl503 (Sub.cons hl504 (Sub.cons hl505 (Sub.cons hl506 (Sub.cons hl507 (Sub.cons hl508 (Sub.cons hl509 (Sub.cons hl510 (Sub.cons hl511 (Sub.cons hl512 (Sub.cons hl513 (Sub.nil _)))))))))))))))))))) ?_
       have hf514z := Ex.size hf514
       have hbg515 : p_more.length ≤ 1073741824 := o2
       rcases Nat.lt_or_ge k484 p_more.length with hlt516 | hlt516
       ·refine CW.seq (CW.seq (CW.region (sd rfl (yl_move rfl rfl (sd rfl (yl_move rfl rfl (sd rfl (yl_slen Tryz.un9 (a := p_more) rfl rfl (sd rfl (yl_lss rfl rfl rfl (SeqR.done (tn ?_))))))))))))
        refine CW.cond_t rfl (lt_t hlt516) (CW.skip (tn (CW.seq (CW.block (bcase (x485) (fun hb517 => ?_) (fun hb517 => ?_))))))
        ·refine CW.drawsI 11 (vgetI [DetI (.bool (x485)), DetI (.bool (x485)), DetI (undef), DetI (undef), DetI (undef), DetI (undef), DetI (undef), DetI (undef), DetI (undef), DetI (.bool (true)), DetI (.bool (true))]) Tryz.follows rfl rfl rfl rfl rfl rfl (vgetI_stable ⟨StableI.det _, StableI.det _, StableI.det _, StableI.det _, StableI.det _, StableI.det _, StableI.det _, StableI.det _, StableI.det _, StableI.det _, StableI.det _, trivial⟩) ⟨?_, ?_, ?_, ?_, ?_, ?_, ?_, ?_, ?_, ?_, ?_, trivial⟩ ?_
         ·exact fun _ _ h => os rfl ((yl_move rfl (h.old 6 _ rfl rfl) kI))
         ·exact fun _ _ h => os rfl ((yl_move rfl (h.dt 0 42 rfl rfl rfl) kI))
         ·exact fun _ _ h => OpR.skip rfl rfl (h.dt 1 43 rfl rfl rfl) hb517 ⟨rfl, Ex.refl _⟩
         ·exact fun _ _ h => OpR.skip rfl rfl (h.dt 1 43 rfl rfl rfl) hb517 ⟨rfl, Ex.refl _⟩
         ·exact fun _ _ h => OpR.skip rfl rfl (h.dt 1 43 rfl rfl rfl) hb517 ⟨rfl, Ex.refl _⟩
         ·exact fun _ _ h => OpR.skip rfl rfl (h.dt 1 43 rfl rfl rfl) hb517 ⟨rfl, Ex.refl _⟩
         ·exact fun _ _ h => OpR.skip rfl rfl (h.dt 1 43 rfl rfl rfl) hb517 ⟨rfl, Ex.refl _⟩
         ·exact fun _ _ h => OpR.skip rfl rfl (h.dt 1 43 rfl rfl rfl) hb517 ⟨rfl, Ex.refl _⟩
         ·exact fun _ _ h => OpR.skip rfl rfl (h.dt 1 43 rfl rfl rfl) hb517 ⟨rfl, Ex.refl _⟩
         ·exact fun _ _ h => os rfl ((yl_pick_t rfl (h.dt 1 43 rfl rfl rfl) hb517 rfl kI))
         ·exact fun _ _ h => os rfl ((yl_assign rfl (h.dt 9 51 rfl rfl rfl) kI))
         ·intro fl577 fh578 L574 w575 hp576
          have hE579 := hp576.ex
          have hE579z := Ex.size hE579
          refine SeqR.done (bn (tn (CW.sub (Sub.cons (d := 0) (hp576.old 0 _ rfl rfl) (Sub.cons (d := 1) (hp576.old 1 _ rfl rfl) (Sub.cons (d := 5) (hp576.old 5 _ rfl rfl) (Sub.cons (d := 6) (hp576.nt 10 6 rfl rfl rfl) (Sub.cons (d := 7) (hp576.old 7 _ rfl rfl) (Sub.cons (d := 19) (hp576.old 19 _ rfl rfl) (Sub.cons (d := 20) (hp576.old 20 _ rfl rfl) (Sub.cons (d := 21) (hp576.old 21 _ rfl rfl) (Sub.cons (d := 22) (hp576.old 22 _ rfl rfl) (Sub.cons (d := 25) (hp576.old 25 _ rfl rfl) (Sub.cons (d := 26) (hp576.old 26 _ rfl rfl) (Sub.cons (d := 27) (hp576.old 27 _ rfl rfl) (Sub.cons (d := 28) (hp576.old 28 _ rfl rfl) (Sub.cons (d := 29) (hp576.old 29 _ rfl rfl) (Sub.cons (d := 30) (hp576.old 30 _ rfl rfl) (Sub.cons (d := 31) (hp576.old 31 _ rfl rfl) (Sub.cons (d := 32) (hp576.old 32 _ rfl rfl) (Sub.cons (d := 33) (hp576.old 33 _ rfl rfl) (Sub.cons (d := 34) (hp576.old 34 _ rfl rfl) (Sub.cons (d := 44) (hp576.nt 2 44 rfl rfl rfl) (Sub.cons (d := 45) (hp576.nt 3 45 rfl rfl rfl) (Sub.cons (d := 46) (hp576.nt 4 46 rfl rfl rfl) (Sub.cons (d := 47) (hp576.nt 5 47 rfl rfl rfl) (Sub.cons (d := 48) (hp576.nt 6 48 rfl rfl rfl) (Sub.cons (d := 49) (hp576.nt 7 49 rfl rfl rfl) (Sub.cons (d := 50) (hp576.nt 8 50 rfl rfl rfl) (Sub.nil _))))))))))))))))))))))))))) (CW.region (sd rfl (yl_move rfl rfl (sd rfl (yl_inc rfl rfl rfl (by omega) (sd rfl (yl_assign rfl rfl (SeqR.done ?_)))))))))))
          refine tn ?_
          have hB606 : B_s_l3Bytes_1 p_s p_more k5 k484 (x485) = .cont (true) := by simp only [B_s_l3Bytes_1, hb21, hb22, hb253, hb517, cond_true, cond_false, loopE_done, loopE_ret]
          exact ⟨p_more.length - (k484 + 1), by omega, k484 + 1, true, rfl, hlt516, (by omega), rfl, rfl, rfl, rfl, rfl, rfl, rfl, rfl, rfl, rfl, rfl, rfl, rfl, rfl, rfl, rfl, rfl, rfl, rfl, (Ex.trans hf514 hE579), (loopM.cont hlt516 hB606).symm.trans hI493⟩
        ·refine CW.drawsI 11 (vgetI [DetI (.bool (x485)), DetI (.bool (x485)), DetI (.string (bs (p_s))), DetI (.int .i64 ((k5 : Int))), DetI (.int .u8 (((p_s.getD k5 0).toNat : Int))), DetI (.string (bs (p_more))), DetI (.int .i64 ((k484 : Int))), DetI (.int .u8 (((p_more.getD k484 0).toNat : Int))), DetI (.bool (decide (((p_s.getD k5 0).toNat : Int) = ((p_more.getD k484 0).toNat : Int)))), DetI (.bool (decide (((p_s.getD k5 0).toNat : Int) = ((p_more.getD k484 0).toNat : Int)))), DetI (.bool (decide (((p_s.getD k5 0).toNat : Int) = ((p_more.getD k484 0).toNat : Int))))]) Tryz.follows rfl rfl rfl rfl rfl rfl (vgetI_stable ⟨StableI.det _, StableI.det _, StableI.det _, StableI.det _, StableI.det _, StableI.det _, StableI.det _, StableI.det _, StableI.det _, StableI.det _, StableI.det _, trivial⟩) ⟨?_, ?_, ?_, ?_, ?_, ?_, ?_, ?_, ?_, ?_, ?_, trivial⟩ ?_
         ·exact fun _ _ h => os rfl ((yl_move rfl (h.old 6 _ rfl rfl) kI))
         ·exact fun _ _ h => os rfl ((yl_move rfl (h.dt 0 42 rfl rfl rfl) kI))
         ·exact fun _ _ h => OpR.want rfl rfl (h.dt 1 43 rfl rfl rfl) hb517 (Yl.sameI (yl_move rfl (h.old 0 _ rfl rfl) kI))
         ·exact fun _ _ h => OpR.want rfl rfl (h.dt 1 43 rfl rfl rfl) hb517 (Yl.sameI (yl_move rfl (h.old 5 _ rfl rfl) kI))
         ·intro L630 w631 hi632
          have hE633 := hi632.ex
          have hE633z := Ex.size hE633
          exact OpR.want rfl rfl (hi632.dt 1 43 rfl rfl rfl) hb517 (Yl.sameI (yl_sindexN Tryz.un9 (a := p_s) rfl (hi632.dt 2 44 rfl rfl rfl) (hi632.dt 3 45 rfl rfl rfl) (by first | omega | assumption | (simp only [IntKind.wrap_i64] at *; omega)) kI))
         ·exact fun _ _ h => OpR.want rfl rfl (h.dt 1 43 rfl rfl rfl) hb517 (Yl.sameI (yl_move rfl (h.old 1 _ rfl rfl) kI))
         ·exact fun _ _ h => OpR.want rfl rfl (h.dt 1 43 rfl rfl rfl) hb517 (Yl.sameI (yl_move rfl (h.old 7 _ rfl rfl) kI))
         ·intro L649 w650 hi651
          have hE652 := hi651.ex
          have hE652z := Ex.size hE652
          exact OpR.want rfl rfl (hi651.dt 1 43 rfl rfl rfl) hb517 (Yl.sameI (yl_sindexN Tryz.un9 (a := p_more) rfl (hi651.dt 5 47 rfl rfl rfl) (hi651.dt 6 48 rfl rfl rfl) (by first | omega | assumption | (simp only [IntKind.wrap_i64] at *; omega)) kI))
         ·exact fun _ _ h => OpR.want rfl rfl (h.dt 1 43 rfl rfl rfl) hb517 (Yl.sameI (yl_eql rfl (h.dt 4 46 rfl rfl rfl) (h.dt 7 49 rfl rfl rfl) kI))
         ·exact fun _ _ h => os rfl ((yl_pick_f rfl (h.dt 1 43 rfl rfl rfl) hb517 (h.dt 8 50 rfl rfl rfl) kI))
         ·exact fun _ _ h => os rfl ((yl_assign rfl (h.dt 9 51 rfl rfl rfl) kI))
         ·intro fl677 fh678 L674 w675 hp676
          have hE679 := hp676.ex
          have hE679z := Ex.size hE679
          refine SeqR.done (bn (tn (CW.sub (Sub.cons (d := 0) (hp676.old 0 _ rfl rfl) (Sub.cons (d := 1) (hp676.old 1 _ rfl rfl) (Sub.cons (d := 5) (hp676.old 5 _ rfl rfl) (Sub.cons (d := 6) (hp676.nt 10 6 rfl rfl rfl) (Sub.cons (d := 7) (hp676.old 7 _ rfl rfl) (Sub.cons (d := 19) (hp676.old 19 _ rfl rfl) (Sub.cons (d := 20) (hp676.old 20 _ rfl rfl) (Sub.cons (d := 21) (hp676.old 21 _ rfl rfl) (Sub.cons (d := 22) (hp676.old 22 _ rfl rfl) (Sub.cons (d := 25) (hp676.old 25 _ rfl rfl) (Sub.cons (d := 26) (hp676.old 26 _ rfl rfl) (Sub.cons (d := 27) (hp676.old 27 _ rfl rfl) (Sub.cons (d := 28) (hp676.old 28 _ rfl rfl) (Sub.cons (d := 29) (hp676.old 29 _ rfl rfl) (Sub.cons (d := 30) (hp676.old 30 _ rfl rfl) (Sub.cons (d := 31) (hp676.old 31 _ rfl rfl) (Sub.cons (d := 32) (hp676.old 32 _ rfl rfl) (Sub.cons (d := 33) (hp676.old 33 _ rfl rfl) (Sub.cons (d := 34) (hp676.old 34 _ rfl rfl) (Sub.cons (d := 44) (hp676.nt 2 44 rfl rfl rfl) (Sub.cons (d := 45) (hp676.nt 3 45 rfl rfl rfl) (Sub.cons (d := 46) (hp676.nt 4 46 rfl rfl rfl) (Sub.cons (d := 47) (hp676.nt 5 47 rfl rfl rfl) (Sub.cons (d := 48) (hp676.nt 6 48 rfl rfl rfl) (Sub.cons (d := 49) (hp676.nt 7 49 rfl rfl rfl) (Sub.cons (d := 50) (hp676.nt 8 50 rfl rfl rfl) (Sub.nil _))))))))))))))))))))))))))) (CW.region (sd rfl (yl_move rfl rfl (sd rfl (yl_inc rfl rfl rfl (by omega) (sd rfl (yl_assign rfl rfl (SeqR.done ?_)))))))))))
          refine tn ?_
          have hB706 : B_s_l3Bytes_1 p_s p_more k5 k484 (x485) = .cont (decide (((p_s.getD k5 0).toNat : Int) = ((p_more.getD k484 0).toNat : Int))) := by simp only [B_s_l3Bytes_1, hb21, hb22, hb253, hb517, cond_true, cond_false, loopE_done, loopE_ret]
          exact ⟨p_more.length - (k484 + 1), by omega, k484 + 1, decide (((p_s.getD k5 0).toNat : Int) = ((p_more.getD k484 0).toNat : Int)), rfl, hlt516, (by omega), rfl, rfl, rfl, rfl, rfl, rfl, rfl, rfl, rfl, rfl, rfl, rfl, rfl, rfl, rfl, rfl, rfl, rfl, rfl, (Ex.trans hf514 hE679), (loopM.cont hlt516 hB706).symm.trans hI493⟩
       ·refine CW.seq (CW.seq (CW.region (sd rfl (yl_move rfl rfl (sd rfl (yl_move rfl rfl (sd rfl (yl_slen Tryz.un9 (a := p_more) rfl rfl (sd rfl (yl_lss rfl rfl rfl (SeqR.done (tn ?_))))))))))))
        refine CW.cond_f rfl (lt_f hlt516) (CW.exit (tx (tx ?_)))
        have hL708 : loopM (B_s_l3Bytes_1 p_s p_more k5) (p_more.length - 0) 0 (false) = .done (x485) := hI493.symm.trans (loopM.stop hlt516)
        refine bx (tn (CW.seq (CW.region (sd rfl (yl_move rfl rfl (sd rfl (yl_not rfl rfl (SeqR.done (tn (bcase (x485) (fun hb709 => ?_) (fun hb709 => ?_)))))))))))
        ·refine CW.cond_f rfl (not_t hb709) (CW.skip (bn (tn (CW.region (sd rfl (yl_move rfl rfl (sd rfl (yl_inc rfl rfl rfl (by omega) (sd rfl (yl_assign rfl rfl (SeqR.done ?_)))))))))))
         refine tn ?_
         have hB710 : B_s_l3Bytes_0 p_s p_more k5 () = .cont () := by simp only [B_s_l3Bytes_0, hb21, hb22, hb253, hb709, hL708, cond_true, cond_false, loopE_done, loopE_ret]
         exact ⟨p_s.length - (k5 + 1), by omega, k5 + 1, rfl, hlt20, (by omega), rfl, rfl, rfl, hf514, (loopM.cont hlt20 hB710).symm.trans hI13⟩
        ·refine CW.cond_t rfl (not_f hb709) (CW.seq (CW.region (sd rfl (yl_assign rfl rfl (SeqR.done (tn (CW.ret (br (tr ?_)))))))))
         refine tr ?_
         have hB712 : B_s_l3Bytes_0 p_s p_more k5 () = .ret false := by simp only [B_s_l3Bytes_0, hb21, hb22, hb253, hb709, hL708, cond_true, cond_false, loopE_done, loopE_ret]
         have hL711 : loopM (B_s_l3Bytes_0 p_s p_more) (p_s.length - 0) 0 () = .ret false := hI13.symm.trans (loopM.ret hlt20 hB712)
         refine br (tr (rr rfl (.cons rfl .nil) ?_))
         have hM713 : (s_l3Bytes p_s p_more) = (false) := by simp only [s_l3Bytes, hb21, hb22, hb253, hb709, hL708, hL711, cond_true, cond_false, loopE_done, loopE_ret]
         rw [hM713]
         exact ⟨rfl, hf514⟩
   ·have hb21p := dec_f hb21
    refine sz rfl rfl hb21 (sz rfl rfl hb21 (sz rfl rfl hb21 (sz rfl rfl hb21 (sd rfl (yl_pick_f rfl rfl hb21 rfl (sd rfl (yl_move rfl rfl (sy rfl rfl rfl (yl_move rfl rfl (sy rfl rfl rfl (yl_move rfl rfl (sy rfl rfl rfl (yl_sindexN Tryz.un9 (a := p_s) rfl rfl rfl (by first | omega | assumption | (simp only [IntKind.wrap_i64] at *; omega)) ?_)))))))))))))
    refine sy rfl rfl rfl (yl_geq rfl rfl rfl (sy rfl rfl rfl (yl_move rfl rfl (bcase (decide (48 ≤ ((p_s.getD k5 0).toNat : Int))) (fun hb714 => ?_) (fun hb714 => ?_)))))
    ·have hb714p := dec_t hb714
     refine sy rfl rfl hb714 (yl_move rfl rfl (sy rfl rfl hb714 (yl_move rfl rfl (sy rfl rfl hb714 (yl_sindexN Tryz.un9 (a := p_s) rfl rfl rfl (by first | omega | assumption | (simp only [IntKind.wrap_i64] at *; omega)) (sy rfl rfl hb714 (yl_leq rfl rfl rfl (sy rfl rfl rfl (yl_pick_t rfl rfl hb714 rfl (sd rfl (yl_pick_f rfl rfl rfl rfl (sd rfl (yl_assign rfl rfl (SeqR.done (tn ?_)))))))))))))))
     refine CW.seq (CW.seq (CW.region (sd rfl (yl_assign rfl rfl (SeqR.done (tn (CW.block (CW.loop (fun m717 L718 w719 => ∃ (k715 : Nat) (x716 : Bool), m717 = p_more.length - k715 ∧ k715 ≤ p_more.length ∧ w11.heap.size ≤ w719.heap.size ∧ lkp L718 0 = some (.string (bs (p_s))) ∧ lkp L718 1 = some (.string (bs (p_more))) ∧ lkp L718 5 = some (.int .i64 ((k5 : Int))) ∧ lkp L718 6 = some (.bool (x716)) ∧ lkp L718 7 = some (.int .i64 ((k715 : Int))) ∧ lkp L718 19 = some (undef) ∧ lkp L718 20 = some (undef) ∧ lkp L718 21 = some (undef) ∧ lkp L718 22 = some (undef) ∧ lkp L718 25 = some (.string (bs (p_s))) ∧ lkp L718 26 = some (.int .i64 ((k5 : Int))) ∧ lkp L718 27 = some (.int .u8 (((p_s.getD k5 0).toNat : Int))) ∧ lkp L718 28 = some (.bool (decide (48 ≤ ((p_s.getD k5 0).toNat : Int)))) ∧ lkp L718 29 = some (.bool (decide (48 ≤ ((p_s.getD k5 0).toNat : Int)))) ∧ lkp L718 30 = some (.string (bs (p_s))) ∧ lkp L718 31 = some (.int .i64 ((k5 : Int))) ∧ lkp L718 32 = some (.int .u8 (((p_s.getD k5 0).toNat : Int))) ∧ lkp L718 33 = some (.bool (decide (((p_s.getD k5 0).toNat : Int) ≤ 57))) ∧ lkp L718 34 = some (.bool (decide (((p_s.getD k5 0).toNat : Int) ≤ 57))) ∧ Ex w w719 ∧ loopM (B_s_l3Bytes_1 p_s p_more k5) (p_more.length - k715) k715 (x716) = loopM (B_s_l3Bytes_1 p_s p_more k5) (p_more.length - 0) 0 (decide (((p_s.getD k5 0).toNat : Int) ≤ 57))) (p_more.length - 0) ?_ ?_))))))))
     ·exact ⟨0, decide (((p_s.getD k5 0).toNat : Int) ≤ 57), rfl, (by omega), Nat.le_refl _, rfl, rfl, rfl, rfl, rfl, rfl, rfl, rfl, rfl, rfl, rfl, rfl, rfl, rfl, rfl, rfl, rfl, rfl, rfl, hf18, rfl⟩
     ·rintro m720 L721 w722 ⟨k715, x716, rfl, hk723, hsz725, hl726, hl727, hl728, hl729, hl730, hl731, hl732, hl733, hl734, hl735, hl736, hl737, hl738, hl739, hl740, hl741, hl742, hl743, hl744, hf745, hI724⟩
      refine CW.sub (Sub.cons hl726 (Sub.cons hl727 (Sub.cons hl728 (Sub.cons hl729 (Sub.cons hl730 (Sub.cons hl731 (Sub.cons hl732 (Sub.cons hl733 (Sub.cons hl734 (Sub.cons hl735 (Sub.cons hl736 (Sub.cons hl737 (Sub.cons hl738 (Sub.cons hl739 (Sub.cons hl740 (Sub.cons hl741 (Sub.cons hl742 (Sub.cons hl743 (Sub.cons hl744 (Sub.nil _)))))))))))))))))))) ?_
      have hf745z := Ex.size hf745
      have hbg746 : p_more.length ≤ 1073741824 := o2
      rcases Nat.lt_or_ge k715 p_more.length with hlt747 | hlt747
      ·refine CW.seq (CW.seq (CW.region (sd rfl (yl_move rfl rfl (sd rfl (yl_move rfl rfl (sd rfl (yl_slen Tryz.un9 (a := p_more) rfl rfl (sd rfl (yl_lss rfl rfl rfl (SeqR.done (tn ?_))))))))))))
       refine CW.cond_t rfl (lt_t hlt747) (CW.skip (tn (CW.seq (CW.block (bcase (x716) (fun hb748 => ?_) (fun hb748 => ?_))))))
       ·refine CW.drawsI 11 (vgetI [DetI (.bool (x716)), DetI (.bool (x716)), DetI (undef), DetI (undef), DetI (undef), DetI (undef), DetI (undef), DetI (undef), DetI (undef), DetI (.bool (true)), DetI (.bool (true))]) Tryz.follows rfl rfl rfl rfl rfl rfl (vgetI_stable ⟨StableI.det _, StableI.det _, StableI.det _, StableI.det _, StableI.det _, StableI.det _, StableI.det _, StableI.det _, StableI.det _, StableI.det _, StableI.det _, trivial⟩) ⟨?_, ?_, ?_, ?_, ?_, ?_, ?_, ?_, ?_, ?_, ?_, trivial⟩ ?_
        ·exact fun _ _ h => os rfl ((yl_move rfl (h.old 6 _ rfl rfl) kI))
        ·exact fun _ _ h => os rfl ((yl_move rfl (h.dt 0 42 rfl rfl rfl) kI))
        ·exact fun _ _ h => OpR.skip rfl rfl (h.dt 1 43 rfl rfl rfl) hb748 ⟨rfl, Ex.refl _⟩
        ·exact fun _ _ h => OpR.skip rfl rfl (h.dt 1 43 rfl rfl rfl) hb748 ⟨rfl, Ex.refl _⟩
        ·exact fun _ _ h => OpR.skip rfl rfl (h.dt 1 43 rfl rfl rfl) hb748 ⟨rfl, Ex.refl _⟩
        ·exact fun _ _ h => OpR.skip rfl rfl (h.dt 1 43 rfl rfl rfl) hb748 ⟨rfl, Ex.refl _⟩
        ·exact fun _ _ h => OpR.skip rfl rfl (h.dt 1 43 rfl rfl rfl) hb748 ⟨rfl, Ex.refl _⟩
        ·exact fun _ _ h => OpR.skip rfl rfl (h.dt 1 43 rfl rfl rfl) hb748 ⟨rfl, Ex.refl _⟩
        ·exact fun _ _ h => OpR.skip rfl rfl (h.dt 1 43 rfl rfl rfl) hb748 ⟨rfl, Ex.refl _⟩
        ·exact fun _ _ h => os rfl ((yl_pick_t rfl (h.dt 1 43 rfl rfl rfl) hb748 rfl kI))
        ·exact fun _ _ h => os rfl ((yl_assign rfl (h.dt 9 51 rfl rfl rfl) kI))
        ·intro fl808 fh809 L805 w806 hp807
         have hE810 := hp807.ex
         have hE810z := Ex.size hE810
         refine SeqR.done (bn (tn (CW.sub (Sub.cons (d := 0) (hp807.old 0 _ rfl rfl) (Sub.cons (d := 1) (hp807.old 1 _ rfl rfl) (Sub.cons (d := 5) (hp807.old 5 _ rfl rfl) (Sub.cons (d := 6) (hp807.nt 10 6 rfl rfl rfl) (Sub.cons (d := 7) (hp807.old 7 _ rfl rfl) (Sub.cons (d := 19) (hp807.old 19 _ rfl rfl) (Sub.cons (d := 20) (hp807.old 20 _ rfl rfl) (Sub.cons (d := 21) (hp807.old 21 _ rfl rfl) (Sub.cons (d := 22) (hp807.old 22 _ rfl rfl) (Sub.cons (d := 25) (hp807.old 25 _ rfl rfl) (Sub.cons (d := 26) (hp807.old 26 _ rfl rfl) (Sub.cons (d := 27) (hp807.old 27 _ rfl rfl) (Sub.cons (d := 28) (hp807.old 28 _ rfl rfl) (Sub.cons (d := 29) (hp807.old 29 _ rfl rfl) (Sub.cons (d := 30) (hp807.old 30 _ rfl rfl) (Sub.cons (d := 31) (hp807.old 31 _ rfl rfl) (Sub.cons (d := 32) (hp807.old 32 _ rfl rfl) (Sub.cons (d := 33) (hp807.old 33 _ rfl rfl) (Sub.cons (d := 34) (hp807.old 34 _ rfl rfl) (Sub.cons (d := 44) (hp807.nt 2 44 rfl rfl rfl) (Sub.cons (d := 45) (hp807.nt 3 45 rfl rfl rfl) (Sub.cons (d := 46) (hp807.nt 4 46 rfl rfl rfl) (Sub.cons (d := 47) (hp807.nt 5 47 rfl rfl rfl) (Sub.cons (d := 48) (hp807.nt 6 48 rfl rfl rfl) (Sub.cons (d := 49) (hp807.nt 7 49 rfl rfl rfl) (Sub.cons (d := 50) (hp807.nt 8 50 rfl rfl rfl) (Sub.nil _))))))))))))))))))))))))))) (CW.region (sd rfl (yl_move rfl rfl (sd rfl (yl_inc rfl rfl rfl (by omega) (sd rfl (yl_assign rfl rfl (SeqR.done ?_)))))))))))
         refine tn ?_
         have hB837 : B_s_l3Bytes_1 p_s p_more k5 k715 (x716) = .cont (true) := by simp only [B_s_l3Bytes_1, hb21, hb714, hb748, cond_true, cond_false, loopE_done, loopE_ret]
         exact ⟨p_more.length - (k715 + 1), by omega, k715 + 1, true, rfl, hlt747, (by omega), rfl, rfl, rfl, rfl, rfl, rfl, rfl, rfl, rfl, rfl, rfl, rfl, rfl, rfl, rfl, rfl, rfl, rfl, rfl, (Ex.trans hf745 hE810), (loopM.cont hlt747 hB837).symm.trans hI724⟩
       ·refine CW.drawsI 11 (vgetI [DetI (.bool (x716)), DetI (.bool (x716)), DetI (.string (bs (p_s))), DetI (.int .i64 ((k5 : Int))), DetI (.int .u8 (((p_s.getD k5 0).toNat : Int))), DetI (.string (bs (p_more))), DetI (.int .i64 ((k715 : Int))), DetI (.int .u8 (((p_more.getD k715 0).toNat : Int))), DetI (.bool (decide (((p_s.getD k5 0).toNat : Int) = ((p_more.getD k715 0).toNat : Int)))), DetI (.bool (decide (((p_s.getD k5 0).toNat : Int) = ((p_more.getD k715 0).toNat : Int)))), DetI (.bool (decide (((p_s.getD k5 0).toNat : Int) = ((p_more.getD k715 0).toNat : Int))))]) Tryz.follows rfl rfl rfl rfl rfl rfl (vgetI_stable ⟨StableI.det _, StableI.det _, StableI.det _, StableI.det _, StableI.det _, StableI.det _, StableI.det _, StableI.det _, StableI.det _, StableI.det _, StableI.det _, trivial⟩) ⟨?_, ?_, ?_, ?_, ?_, ?_, ?_, ?_, ?_, ?_, ?_, trivial⟩ ?_
        ·exact fun _ _ h => os rfl ((yl_move rfl (h.old 6 _ rfl rfl) kI))
        ·exact fun _ _ h => os rfl ((yl_move rfl (h.dt 0 42 rfl rfl rfl) kI))
        ·exact fun _ _ h => OpR.want rfl rfl (h.dt 1 43 rfl rfl rfl) hb748 (Yl.sameI (yl_move rfl (h.old 0 _ rfl rfl) kI))
        ·exact fun _ _ h => OpR.want rfl rfl (h.dt 1 43 rfl rfl rfl) hb748 (Yl.sameI (yl_move rfl (h.old 5 _ rfl rfl) kI))
        ·intro L861 w862 hi863
         have hE864 := hi863.ex
         have hE864z := Ex.size hE864
         exact OpR.want rfl rfl (hi863.dt 1 43 rfl rfl rfl) hb748 (Yl.sameI (yl_sindexN Tryz.un9 (a := p_s) rfl (hi863.dt 2 44 rfl rfl rfl) (hi863.dt 3 45 rfl rfl rfl) (by first | omega | assumption | (simp only [IntKind.wrap_i64] at *; omega)) kI))
        ·exact fun _ _ h => OpR.want rfl rfl (h.dt 1 43 rfl rfl rfl) hb748 (Yl.sameI (yl_move rfl (h.old 1 _ rfl rfl) kI))
        ·exact fun _ _ h => OpR.want rfl rfl (h.dt 1 43 rfl rfl rfl) hb748 (Yl.sameI (yl_move rfl (h.old 7 _ rfl rfl) kI))
        ·intro L880 w881 hi882
         have hE883 := hi882.ex
         have hE883z := Ex.size hE883
         exact OpR.want rfl rfl (hi882.dt 1 43 rfl rfl rfl) hb748 (Yl.sameI (yl_sindexN Tryz.un9 (a := p_more) rfl (hi882.dt 5 47 rfl rfl rfl) (hi882.dt 6 48 rfl rfl rfl) (by first | omega | assumption | (simp only [IntKind.wrap_i64] at *; omega)) kI))
        ·exact fun _ _ h => OpR.want rfl rfl (h.dt 1 43 rfl rfl rfl) hb748 (Yl.sameI (yl_eql rfl (h.dt 4 46 rfl rfl rfl) (h.dt 7 49 rfl rfl rfl) kI))
        ·exact fun _ _ h => os rfl ((yl_pick_f rfl (h.dt 1 43 rfl rfl rfl) hb748 (h.dt 8 50 rfl rfl rfl) kI))
        ·exact fun _ _ h => os rfl ((yl_assign rfl (h.dt 9 51 rfl rfl rfl) kI))
        ·intro fl908 fh909 L905 w906 hp907
         have hE910 := hp907.ex
         have hE910z := Ex.size hE910
         refine SeqR.done (bn (tn (CW.sub (Sub.cons (d := 0) (hp907.old 0 _ rfl rfl) (Sub.cons (d := 1) (hp907.old 1 _ rfl rfl) (Sub.cons (d := 5) (hp907.old 5 _ rfl rfl) (Sub.cons (d := 6) (hp907.nt 10 6 rfl rfl rfl) (Sub.cons (d := 7) (hp907.old 7 _ rfl rfl) (Sub.cons (d := 19) (hp907.old 19 _ rfl rfl) (Sub.cons (d := 20) (hp907.old 20 _ rfl rfl) (Sub.cons (d := 21) (hp907.old 21 _ rfl rfl) (Sub.cons (d := 22) (hp907.old 22 _ rfl rfl) (Sub.cons (d := 25) (hp907.old 25 _ rfl rfl) (Sub.cons (d := 26) (hp907.old 26 _ rfl rfl) (Sub.cons (d := 27) (hp907.old 27 _ rfl rfl) (Sub.cons (d := 28) (hp907.old 28 _ rfl rfl) (Sub.cons (d := 29) (hp907.old 29 _ rfl rfl) (Sub.cons (d := 30) (hp907.old 30 _ rfl rfl) (Sub.cons (d := 31) (hp907.old 31 _ rfl rfl) (Sub.cons (d := 32) (hp907.old 32 _ rfl rfl) (Sub.cons (d := 33) (hp907.old 33 _ rfl rfl) (Sub.cons (d := 34) (hp907.old 34 _ rfl rfl) (Sub.cons (d := 44) (hp907.nt 2 44 rfl rfl rfl) (Sub.cons (d := 45) (hp907.nt 3 45 rfl rfl rfl) (Sub.cons (d := 46) (hp907.nt 4 46 rfl rfl rfl) (Sub.cons (d := 47) (hp907.nt 5 47 rfl rfl rfl) (Sub.cons (d := 48) (hp907.nt 6 48 rfl rfl rfl) (Sub.cons (d := 49) (hp907.nt 7 49 rfl rfl rfl) (Sub.cons (d := 50) (hp907.nt 8 50 rfl rfl rfl) (Sub.nil _))))))))))))))))))))))))))) (CW.region (sd rfl (yl_move rfl rfl (sd rfl (yl_inc rfl rfl rfl (by omega) (sd rfl (yl_assign rfl rfl (SeqR.done ?_)))))))))))
         refine tn ?_
         have hB937 : B_s_l3Bytes_1 p_s p_more k5 k715 (x716) = .cont (decide (((p_s.getD k5 0).toNat : Int) = ((p_more.getD k715 0).toNat : Int))) := by simp only [B_s_l3Bytes_1, hb21, hb714, hb748, cond_true, cond_false, loopE_done, loopE_ret]
         exact ⟨p_more.length - (k715 + 1), by omega, k715 + 1, decide (((p_s.getD k5 0).toNat : Int) = ((p_more.getD k715 0).toNat : Int)), rfl, hlt747, (by omega), rfl, rfl, rfl, rfl, rfl, rfl, rfl, rfl, rfl, rfl, rfl, rfl, rfl, rfl, rfl, rfl, rfl, rfl, rfl, (Ex.trans hf745 hE910), (loopM.cont hlt747 hB937).symm.trans hI724⟩
      ·refine CW.seq (CW.seq (CW.region (sd rfl (yl_move rfl rfl (sd rfl (yl_move rfl rfl (sd rfl (yl_slen Tryz.un9 (a := p_more) rfl rfl (sd rfl (yl_lss rfl rfl rfl (SeqR.done (tn ?_))))))))))))
       refine CW.cond_f rfl (lt_f hlt747) (CW.exit (tx (tx ?_)))
       have hL939 : loopM (B_s_l3Bytes_1 p_s p_more k5) (p_more.length - 0) 0 (decide (((p_s.getD k5 0).toNat : Int) ≤ 57)) = .done (x716) := hI724.symm.trans (loopM.stop hlt747)
       refine bx (tn (CW.seq (CW.region (sd rfl (yl_move rfl rfl (sd rfl (yl_not rfl rfl (SeqR.done (tn (bcase (x716) (fun hb940 => ?_) (fun hb940 => ?_)))))))))))
       ·refine CW.cond_f rfl (not_t hb940) (CW.skip (bn (tn (CW.region (sd rfl (yl_move rfl rfl (sd rfl (yl_inc rfl rfl rfl (by omega) (sd rfl (yl_assign rfl rfl (SeqR.done ?_)))))))))))
        refine tn ?_
        have hB941 : B_s_l3Bytes_0 p_s p_more k5 () = .cont () := by simp only [B_s_l3Bytes_0, hb21, hb714, hb940, hL939, cond_true, cond_false, loopE_done, loopE_ret]
        exact ⟨p_s.length - (k5 + 1), by omega, k5 + 1, rfl, hlt20, (by omega), rfl, rfl, rfl, hf745, (loopM.cont hlt20 hB941).symm.trans hI13⟩
       ·refine CW.cond_t rfl (not_f hb940) (CW.seq (CW.region (sd rfl (yl_assign rfl rfl (SeqR.done (tn (CW.ret (br (tr ?_)))))))))
        refine tr ?_
        have hB943 : B_s_l3Bytes_0 p_s p_more k5 () = .ret false := by simp only [B_s_l3Bytes_0, hb21, hb714, hb940, hL939, cond_true, cond_false, loopE_done, loopE_ret]
        have hL942 : loopM (B_s_l3Bytes_0 p_s p_more) (p_s.length - 0) 0 () = .ret false := hI13.symm.trans (loopM.ret hlt20 hB943)
        refine br (tr (rr rfl (.cons rfl .nil) ?_))
        have hM944 : (s_l3Bytes p_s p_more) = (false) := by simp only [s_l3Bytes, hb21, hb714, hb940, hL939, hL942, cond_true, cond_false, loopE_done, loopE_ret]
        rw [hM944]
        exact ⟨rfl, hf745⟩
    ·have hb714p := dec_f hb714
     refine sz rfl rfl hb714 (sz rfl rfl hb714 (sz rfl rfl hb714 (sz rfl rfl hb714 (sy rfl rfl rfl (yl_pick_f rfl rfl hb714 rfl (sd rfl (yl_pick_f rfl rfl rfl rfl (sd rfl (yl_assign rfl rfl (SeqR.done (tn ?_)))))))))))
     refine CW.seq (CW.seq (CW.region (sd rfl (yl_assign rfl rfl (SeqR.done (tn (CW.block (CW.loop (fun m947 L948 w949 => ∃ (k945 : Nat) (x946 : Bool), m947 = p_more.length - k945 ∧ k945 ≤ p_more.length ∧ w11.heap.size ≤ w949.heap.size ∧ lkp L948 0 = some (.string (bs (p_s))) ∧ lkp L948 1 = some (.string (bs (p_more))) ∧ lkp L948 5 = some (.int .i64 ((k5 : Int))) ∧ lkp L948 6 = some (.bool (x946)) ∧ lkp L948 7 = some (.int .i64 ((k945 : Int))) ∧ lkp L948 19 = some (undef) ∧ lkp L948 20 = some (undef) ∧ lkp L948 21 = some (undef) ∧ lkp L948 22 = some (undef) ∧ lkp L948 25 = some (.string (bs (p_s))) ∧ lkp L948 26 = some (.int .i64 ((k5 : Int))) ∧ lkp L948 27 = some (.int .u8 (((p_s.getD k5 0).toNat : Int))) ∧ lkp L948 28 = some (.bool (decide (48 ≤ ((p_s.getD k5 0).toNat : Int)))) ∧ lkp L948 29 = some (.bool (decide (48 ≤ ((p_s.getD k5 0).toNat : Int)))) ∧ lkp L948 30 = some (undef) ∧ lkp L948 31 = some (undef) ∧ lkp L948 32 = some (undef) ∧ lkp L948 33 = some (undef) ∧ lkp L948 34 = some (.bool (false)) ∧ Ex w w949 ∧ loopM (B_s_l3Bytes_1 p_s p_more k5) (p_more.length - k945) k945 (x946) = loopM (B_s_l3Bytes_1 p_s p_more k5) (p_more.length - 0) 0 (false)) (p_more.length - 0) ?_ ?_))))))))
     ·exact ⟨0, false, rfl, (by omega), Nat.le_refl _, rfl, rfl, rfl, rfl, rfl, rfl, rfl, rfl, rfl, rfl, rfl, rfl, rfl, rfl, rfl, rfl, rfl, rfl, rfl, hf18, rfl⟩
     ·rintro m950 L951 w952 ⟨k945, x946, rfl, hk953, hsz955, hl956, hl957, hl958, hl959, hl960, hl961, hl962, hl963, hl964, hl965, hl966, hl967, hl968, hl969, hl970, hl971, hl972, hl973, hl974, hf975, hI954⟩
      refine CW.sub (Sub.cons hl956 (Sub.cons hl957 (Sub.cons hl958 (Sub.cons hl959 (Sub.cons hl960 (Sub.cons hl961 (Sub.cons hl962 (Sub.cons hl963 (Sub.cons hl964 (Sub.cons hl965 (Sub.cons hl966 (Sub.cons hl967 (Sub.cons hl968 (Sub.cons hl969 (Sub.cons hl970 (Sub.cons hl971 (Sub.cons hl972 (Sub.cons hl973 (Sub.cons hl974 (Sub.nil _)))))))))))))))))))) ?_
      have hf975z := Ex.size hf975
      have hbg976 : p_more.length ≤ 1073741824 := o2
      rcases Nat.lt_or_ge k945 p_more.length with hlt977 | hlt977
      ·refine CW.seq (CW.seq (CW.region (sd rfl (yl_move rfl rfl (sd rfl (yl_move rfl rfl (sd rfl (yl_slen Tryz.un9 (a := p_more) rfl rfl (sd rfl (yl_lss rfl rfl rfl (SeqR.done (tn ?_))))))))))))
       refine CW.cond_t rfl (lt_t hlt977) (CW.skip (tn (CW.seq (CW.block (bcase (x946) (fun hb978 => ?_) (fun hb978 => ?_))))))
       ·refine CW.drawsI 11 (vgetI [DetI (.bool (x946)), DetI (.bool (x946)), DetI (undef), DetI (undef), DetI (undef), DetI (undef), DetI (undef), DetI (undef), DetI (undef), DetI (.bool (true)), DetI (.bool (true))]) Tryz.follows rfl rfl rfl rfl rfl rfl (vgetI_stable ⟨StableI.det _, StableI.det _, StableI.det _, StableI.det _, StableI.det _, StableI.det _, StableI.det _, StableI.det _, StableI.det _, StableI.det _, StableI.det _, trivial⟩) ⟨?_, ?_, ?_, ?_, ?_, ?_, ?_, ?_, ?_, ?_, ?_, trivial⟩ ?_
        ·exact fun _ _ h => os rfl ((yl_move rfl (h.old 6 _ rfl rfl) kI))
        ·exact fun _ _ h => os rfl ((yl_move rfl (h.dt 0 42 rfl rfl rfl) kI))
        ·exact fun _ _ h => OpR.skip rfl rfl (h.dt 1 43 rfl rfl rfl) hb978 ⟨rfl, Ex.refl _⟩
        ·exact fun _ _ h => OpR.skip rfl rfl (h.dt 1 43 rfl rfl rfl) hb978 ⟨rfl, Ex.refl _⟩
        ·exact fun _ _ h => OpR.skip rfl rfl (h.dt 1 43 rfl rfl rfl) hb978 ⟨rfl, Ex.refl _⟩
        ·exact fun _ _ h => OpR.skip rfl rfl (h.dt 1 43 rfl rfl rfl) hb978 ⟨rfl, Ex.refl _⟩
        ·exact fun _ _ h => OpR.skip rfl rfl (h.dt 1 43 rfl rfl rfl) hb978 ⟨rfl, Ex.refl _⟩
        ·exact fun _ _ h => OpR.skip rfl rfl (h.dt 1 43 rfl rfl rfl) hb978 ⟨rfl, Ex.refl _⟩
        ·exact fun _ _ h => OpR.skip rfl rfl (h.dt 1 43 rfl rfl rfl) hb978 ⟨rfl, Ex.refl _⟩
        ·exact fun _ _ h => os rfl ((yl_pick_t rfl (h.dt 1 43 rfl rfl rfl) hb978 rfl kI))
        ·exact fun _ _ h => os rfl ((yl_assign rfl (h.dt 9 51 rfl rfl rfl) kI))
        ·intro fl1038 fh1039 L1035 w1036 hp1037
         have hE1040 := hp1037.ex
         have hE1040z := Ex.size hE1040
         refine SeqR.done (bn (tn (CW.sub (Sub.cons (d := 0) (hp1037.old 0 _ rfl rfl) (Sub.cons (d := 1) (hp1037.old 1 _ rfl rfl) (Sub.cons (d := 5) (hp1037.old 5 _ rfl rfl) (Sub.cons (d := 6) (hp1037.nt 10 6 rfl rfl rfl) (Sub.cons (d := 7) (hp1037.old 7 _ rfl rfl) (Sub.cons (d := 19) (hp1037.old 19 _ rfl rfl) (Sub.cons (d := 20) (hp1037.old 20 _ rfl rfl) (Sub.cons (d := 21) (hp1037.old 21 _ rfl rfl) (Sub.cons (d := 22) (hp1037.old 22 _ rfl rfl) (Sub.cons (d := 25) (hp1037.old 25 _ rfl rfl) (Sub.cons (d := 26) (hp1037.old 26 _ rfl rfl) (Sub.cons (d := 27) (hp1037.old 27 _ rfl rfl) (Sub.cons (d := 28) (hp1037.old 28 _ rfl rfl) (Sub.cons (d := 29) (hp1037.old 29 _ rfl rfl) (Sub.cons (d := 30) (hp1037.old 30 _ rfl rfl) (Sub.cons (d := 31) (hp1037.old 31 _ rfl rfl) (Sub.cons (d := 32) (hp1037.old 32 _ rfl rfl) (Sub.cons (d := 33) (hp1037.old 33 _ rfl rfl) (Sub.cons (d := 34) (hp1037.old 34 _ rfl rfl) (Sub.cons (d := 44) (hp1037.nt 2 44 rfl rfl rfl) (Sub.cons (d := 45) (hp1037.nt 3 45 rfl rfl rfl) (Sub.cons (d := 46) (hp1037.nt 4 46 rfl rfl rfl) (Sub.cons (d := 47) (hp1037.nt 5 47 rfl rfl rfl) (Sub.cons (d := 48) (hp1037.nt 6 48 rfl rfl rfl) (Sub.cons (d := 49) (hp1037.nt 7 49 rfl rfl rfl) (Sub.cons (d := 50) (hp1037.nt 8 50 rfl rfl rfl) (Sub.nil _))))))))))))))))))))))))))) (CW.region (sd rfl (yl_move rfl rfl (sd rfl (yl_inc rfl rfl rfl (by omega) (sd rfl (yl_assign rfl rfl (SeqR.done ?_)))))))))))
         refine tn ?_
         have hB1067 : B_s_l3Bytes_1 p_s p_more k5 k945 (x946) = .cont (true) := by simp only [B_s_l3Bytes_1, hb21, hb714, hb978, cond_true, cond_false, loopE_done, loopE_ret]
         exact ⟨p_more.length - (k945 + 1), by omega, k945 + 1, true, rfl, hlt977, (by omega), rfl, rfl, rfl, rfl, rfl, rfl, rfl, rfl, rfl, rfl, rfl, rfl, rfl, rfl, rfl, rfl, rfl, rfl, rfl, (Ex.trans hf975 hE1040), (loopM.cont hlt977 hB1067).symm.trans hI954⟩
       ·refine CW.drawsI 11 (vgetI [DetI (.bool (x946)), DetI (.bool (x946)), DetI (.string (bs (p_s))), DetI (.int .i64 ((k5 : Int))), DetI (.int .u8 (((p_s.getD k5 0).toNat : Int))), DetI (.string (bs (p_more))), DetI (.int .i64 ((k945 : Int))), DetI (.int .u8 (((p_more.getD k945 0).toNat : Int))), DetI (.bool (decide (((p_s.getD k5 0).toNat : Int) = ((p_more.getD k945 0).toNat : Int)))), DetI (.bool (decide (((p_s.getD k5 0).toNat : Int) = ((p_more.getD k945 0).toNat : Int)))), DetI (.bool (decide (((p_s.getD k5 0).toNat : Int) = ((p_more.getD k945 0).toNat : Int))))]) Tryz.follows rfl rfl rfl rfl rfl rfl (vgetI_stable ⟨StableI.det _, StableI.det _, StableI.det _, StableI.det _, StableI.det _, StableI.det _, StableI.det _, StableI.det _, StableI.det _, StableI.det _, StableI.det _, trivial⟩) ⟨?_, ?_, ?_, ?_, ?_, ?_, ?_, ?_, ?_, ?_, ?_, trivial⟩ ?_
        ·exact fun _ _ h => os rfl ((yl_move rfl (h.old 6 _ rfl rfl) kI))
        ·exact fun _ _ h => os rfl ((yl_move rfl (h.dt 0 42 rfl rfl rfl) kI))
        ·exact fun _ _ h => OpR.want rfl rfl (h.dt 1 43 rfl rfl rfl) hb978 (Yl.sameI (yl_move rfl (h.old 0 _ rfl rfl) kI))
        ·exact fun _ _ h => OpR.want rfl rfl (h.dt 1 43 rfl rfl rfl) hb978 (Yl.sameI (yl_move rfl (h.old 5 _ rfl rfl) kI))
        ·intro L1091 w1092 hi1093
         have hE1094 := hi1093.ex
         have hE1094z := Ex.size hE1094
         exact OpR.want rfl rfl (hi1093.dt 1 43 rfl rfl rfl) hb978 (Yl.sameI (yl_sindexN Tryz.un9 (a := p_s) rfl (hi1093.dt 2 44 rfl rfl rfl) (hi1093.dt 3 45 rfl rfl rfl) (by first | omega | assumption | (simp only [IntKind.wrap_i64] at *; omega)) kI))
        ·exact fun _ _ h => OpR.want rfl rfl (h.dt 1 43 rfl rfl rfl) hb978 (Yl.sameI (yl_move rfl (h.old 1 _ rfl rfl) kI))
        ·exact fun _ _ h => OpR.want rfl rfl (h.dt 1 43 rfl rfl rfl) hb978 (Yl.sameI (yl_move rfl (h.old 7 _ rfl rfl) kI))
        ·intro L1110 w1111 hi1112
         have hE1113 := hi1112.ex
         have hE1113z := Ex.size hE1113
         exact OpR.want rfl rfl (hi1112.dt 1 43 rfl rfl rfl) hb978 (Yl.sameI (yl_sindexN Tryz.un9 (a := p_more) rfl (hi1112.dt 5 47 rfl rfl rfl) (hi1112.dt 6 48 rfl rfl rfl) (by first | omega | assumption | (simp only [IntKind.wrap_i64] at *; omega)) kI))
        ·exact fun _ _ h => OpR.want rfl rfl (h.dt 1 43 rfl rfl rfl) hb978 (Yl.sameI (yl_eql rfl (h.dt 4 46 rfl rfl rfl) (h.dt 7 49 rfl rfl rfl) kI))
        ·exact fun _ _ h => os rfl ((yl_pick_f rfl (h.dt 1 43 rfl rfl rfl) hb978 (h.dt 8 50 rfl rfl rfl) kI))
        ·exact fun _ _ h => os rfl ((yl_assign rfl (h.dt 9 51 rfl rfl rfl) kI))
        ·intro fl1138 fh1139 L1135 w1136 hp1137
         have hE1140 := hp1137.ex
         have hE1140z := Ex.size hE1140
         refine SeqR.done (bn (tn (CW.sub (Sub.cons (d := 0) (hp1137.old 0 _ rfl rfl) (Sub.cons (d := 1) (hp1137.old 1 _ rfl rfl) (Sub.cons (d := 5) (hp1137.old 5 _ rfl rfl) (Sub.cons (d := 6) (hp1137.nt 10 6 rfl rfl rfl) (Sub.cons (d := 7) (hp1137.old 7 _ rfl rfl) (Sub.cons (d := 19) (hp1137.old 19 _ rfl rfl) (Sub.cons (d := 20) (hp1137.old 20 _ rfl rfl) (Sub.cons (d := 21) (hp1137.old 21 _ rfl rfl) (Sub.cons (d := 22) (hp1137.old 22 _ rfl rfl) (Sub.cons (d := 25) (hp1137.old 25 _ rfl rfl) (Sub.cons (d := 26) (hp1137.old 26 _ rfl rfl) (Sub.cons (d := 27) (hp1137.old 27 _ rfl rfl) (Sub.cons (d := 28) (hp1137.old 28 _ rfl rfl) (Sub.cons (d := 29) (hp1137.old 29 _ rfl rfl) (Sub.cons (d := 30) (hp1137.old 30 _ rfl rfl) (Sub.cons (d := 31) (hp1137.old 31 _ rfl rfl) (Sub.cons (d := 32) (hp1137.old 32 _ rfl rfl) (Sub.cons (d := 33) (hp1137.old 33 _ rfl rfl) (Sub.cons (d := 34) (hp1137.old 34 _ rfl rfl) (Sub.cons (d := 44) (hp1137.nt 2 44 rfl rfl rfl) (Sub.cons (d := 45) (hp1137.nt 3 45 rfl rfl rfl) (Sub.cons (d := 46) (hp1137.nt 4 46 rfl rfl rfl) (Sub.cons (d := 47) (hp1137.nt 5 47 rfl rfl rfl) (Sub.cons (d := 48) (hp1137.nt 6 48 rfl rfl rfl) (Sub.cons (d := 49) (hp1137.nt 7 49 rfl rfl rfl) (Sub.cons (d := 50) (hp1137.nt 8 50 rfl rfl rfl) (Sub.nil _))))))))))))))))))))))))))) (CW.region (sd rfl (yl_move rfl rfl (sd rfl (yl_inc rfl rfl rfl (by omega) (sd rfl (yl_assign rfl rfl (SeqR.done ?_)))))))))))
         refine tn ?_
         have hB1167 : B_s_l3Bytes_1 p_s p_more k5 k945 (x946) = .cont (decide (((p_s.getD k5 0).toNat : Int) = ((p_more.getD k945 0).toNat : Int))) := by simp only [B_s_l3Bytes_1, hb21, hb714, hb978, cond_true, cond_false, loopE_done, loopE_ret]
         exact ⟨p_more.length - (k945 + 1), by omega, k945 + 1, decide (((p_s.getD k5 0).toNat : Int) = ((p_more.getD k945 0).toNat : Int)), rfl, hlt977, (by omega), rfl, rfl, rfl, rfl, rfl, rfl, rfl, rfl, rfl, rfl, rfl, rfl, rfl, rfl, rfl, rfl, rfl, rfl, rfl, (Ex.trans hf975 hE1140), (loopM.cont hlt977 hB1167).symm.trans hI954⟩
      ·refine CW.seq (CW.seq (CW.region (sd rfl (yl_move rfl rfl (sd rfl (yl_move rfl rfl (sd rfl (yl_slen Tryz.un9 (a := p_more) rfl rfl (sd rfl (yl_lss rfl rfl rfl (SeqR.done (tn ?_))))))))))))
       refine CW.cond_f rfl (lt_f hlt977) (CW.exit (tx (tx ?_)))
       have hL1169 : loopM (B_s_l3Bytes_1 p_s p_more k5) (p_more.length - 0) 0 (false) = .done (x946) := hI954.symm.trans (loopM.stop hlt977)
       refine bx (tn (CW.seq (CW.region (sd rfl (yl_move rfl rfl (sd rfl (yl_not rfl rfl (SeqR.done (tn (bcase (x946) (fun hb1170 => ?_) (fun hb1170 => ?_)))))))))))
       ·refine CW.cond_f rfl (not_t hb1170) (CW.skip (bn (tn (CW.region (sd rfl (yl_move rfl rfl (sd rfl (yl_inc rfl rfl rfl (by omega) (sd rfl (yl_assign rfl rfl (SeqR.done ?_)))))))))))
        refine tn ?_
        have hB1171 : B_s_l3Bytes_0 p_s p_more k5 () = .cont () := by simp only [B_s_l3Bytes_0, hb21, hb714, hb1170, hL1169, cond_true, cond_false, loopE_done, loopE_ret]
        exact ⟨p_s.length - (k5 + 1), by omega, k5 + 1, rfl, hlt20, (by omega), rfl, rfl, rfl, hf975, (loopM.cont hlt20 hB1171).symm.trans hI13⟩
       ·refine CW.cond_t rfl (not_f hb1170) (CW.seq (CW.region (sd rfl (yl_assign rfl rfl (SeqR.done (tn (CW.ret (br (tr ?_)))))))))
        refine tr ?_
        have hB1173 : B_s_l3Bytes_0 p_s p_more k5 () = .ret false := by simp only [B_s_l3Bytes_0, hb21, hb714, hb1170, hL1169, cond_true, cond_false, loopE_done, loopE_ret]
        have hL1172 : loopM (B_s_l3Bytes_0 p_s p_more) (p_s.length - 0) 0 () = .ret false := hI13.symm.trans (loopM.ret hlt20 hB1173)
        refine br (tr (rr rfl (.cons rfl .nil) ?_))
        have hM1174 : (s_l3Bytes p_s p_more) = (false) := by simp only [s_l3Bytes, hb21, hb714, hb1170, hL1169, hL1172, cond_true, cond_false, loopE_done, loopE_ret]
        rw [hM1174]
        exact ⟨rfl, hf975⟩
  ·refine CW.seq (CW.seq (CW.region (sd rfl (yl_move rfl rfl (sd rfl (yl_move rfl rfl (sd rfl (yl_slen Tryz.un9 (a := p_s) rfl rfl (sd rfl (yl_lss rfl rfl rfl (SeqR.done (tn ?_))))))))))))
   refine CW.cond_f rfl (lt_f hlt20) (CW.exit (tx (tx ?_)))
   have hL1175 : loopM (B_s_l3Bytes_0 p_s p_more) (p_s.length - 0) 0 () = .done () := hI13.symm.trans (loopM.stop hlt20)
   refine bx (tn (CW.seq (CW.region (sd rfl (yl_assign rfl rfl (SeqR.done (tn (CW.ret (rr rfl (.cons rfl .nil) ?_)))))))))
   have hM1176 : (s_l3Bytes p_s p_more) = (true) := by simp only [s_l3Bytes, hL1175, cond_true, cond_false, loopE_done, loopE_ret]
   rw [hM1176]
   exact ⟨rfl, hf18⟩
set_option maxRecDepth 100000 in
set_option maxHeartbeats 2000000 in
theorem c_s_l3Key {w : World} (p_s : Str) (o1 : okS p_s) : Cal Tryz.prog 112 #[.string (bs (p_s))] w fun v w' => v = .bool ((s_l3Key p_s)) ∧ Ex w w' := by
 have hol2 : p_s.length ≤ 1073741824 := o1
 refine Cal.of (vs := [.string (bs (p_s))]) Tryz.func112 rfl Tryz.ntmps112 rfl (CW.seq (CW.region (sd rfl (yl_assign rfl rfl (SeqR.done (tn (CW.seq (CW.region (sd rfl (yl_move rfl rfl ?_))))))))))
 refine sd rfl (yl_slen Tryz.un9 (a := p_s) rfl rfl (sd rfl (yl_call Tryz.en55 rfl (opvs_cons rfl (opvs_cons rfl (opvs_cons rfl opvs_nil))) (Cal.mono (c_s_l1In (p_s.length : Int) 1 12) ?_))))
 rintro v4 w3 ⟨rfl, hE5⟩
 have hE5z := Ex.size hE5
 refine sd rfl (yl_move rfl rfl (bcase (s_l1In (p_s.length : Int) 1 12) (fun hb6 => ?_) (fun hb6 => ?_)))
 ·have hb6p := f_l1In hb6
  refine sy rfl rfl hb6 (yl_move rfl rfl (sy rfl rfl hb6 (yl_call Tryz.en142 rfl (opvs_cons rfl (opvs_cons rfl opvs_nil)) (Cal.mono (c_s_l3Bytes p_s ([46, 47] : Str) o1 (okS.lit rfl)) ?_))))
  rintro v8 w7 ⟨rfl, hE9⟩
  have hE9z := Ex.size hE9
  refine sd rfl (yl_pick_t rfl rfl hb6 rfl (sd rfl (yl_assign rfl rfl (SeqR.done (tn (CW.ret (rr rfl (.cons rfl .nil) ?_)))))))
  have hM10 : (s_l3Key p_s) = ((s_l3Bytes p_s ([46, 47] : Str))) := by simp only [s_l3Key, hb6, cond_true, cond_false, loopE_done, loopE_ret]
  rw [hM10]
  exact ⟨rfl, (Ex.trans (Ex.trans (Ex.refl w) hE5) hE9)⟩
 ·refine sz rfl rfl hb6 (sz rfl rfl hb6 (sd rfl (yl_pick_f rfl rfl hb6 rfl (sd rfl (yl_assign rfl rfl (SeqR.done (tn (CW.ret (rr rfl (.cons rfl .nil) ?_)))))))))
  have hM13 : (s_l3Key p_s) = (false) := by simp only [s_l3Key, hb6, cond_true, cond_false, loopE_done, loopE_ret]
  rw [hM13]
  exact ⟨rfl, (Ex.trans (Ex.refl w) hE5)⟩
set_option maxRecDepth 100000 in
set_option maxHeartbeats 2000000 in
theorem c_s_l3Val {w : World} (p_s : Str) (o1 : okS p_s) : Cal Tryz.prog 148 #[.string (bs (p_s))] w fun v w' => v = .bool ((s_l3Val p_s)) ∧ Ex w w' := by
 have hol2 : p_s.length ≤ 1073741824 := o1
 refine Cal.of (vs := [.string (bs (p_s))]) Tryz.func148 rfl Tryz.ntmps148 rfl (CW.seq (CW.region (sd rfl (yl_assign rfl rfl (SeqR.done (tn (CW.seq (CW.region (sd rfl (yl_move rfl rfl ?_))))))))))
 refine sd rfl (yl_slen Tryz.un9 (a := p_s) rfl rfl (sd rfl (yl_leq rfl rfl rfl (sd rfl (yl_move rfl rfl (bcase (decide ((p_s.length : Int) ≤ 24)) (fun hb3 => ?_) (fun hb3 => ?_)))))))
 ·have hb3p := dec_t hb3
  refine sy rfl rfl hb3 (yl_move rfl rfl (sy rfl rfl hb3 (yl_call Tryz.en142 rfl (opvs_cons rfl (opvs_cons rfl opvs_nil)) (Cal.mono (c_s_l3Bytes p_s ([46, 45, 44, 95] : Str) o1 (okS.lit rfl)) ?_))))
  rintro v5 w4 ⟨rfl, hE6⟩
  have hE6z := Ex.size hE6
  refine sd rfl (yl_pick_t rfl rfl hb3 rfl (sd rfl (yl_assign rfl rfl (SeqR.done (tn (CW.ret (rr rfl (.cons rfl .nil) ?_)))))))
  have hM7 : (s_l3Val p_s) = ((s_l3Bytes p_s ([46, 45, 44, 95] : Str))) := by simp only [s_l3Val, hb3, cond_true, cond_false, loopE_done, loopE_ret]
  rw [hM7]
  exact ⟨rfl, (Ex.trans (Ex.refl w) hE6)⟩
 ·have hb3p := dec_f hb3
  refine sz rfl rfl hb3 (sz rfl rfl hb3 (sd rfl (yl_pick_f rfl rfl hb3 rfl (sd rfl (yl_assign rfl rfl (SeqR.done (tn (CW.ret (rr rfl (.cons rfl .nil) ?_)))))))))
  have hM9 : (s_l3Val p_s) = (false) := by simp only [s_l3Val, hb3, cond_true, cond_false, loopE_done, loopE_ret]
  rw [hM9]
  exact ⟨rfl, (Ex.refl w)⟩
set_option maxRecDepth 100000 in
set_option maxHeartbeats 2000000 in
theorem c_s_l3Write {w : World} (p_key : Str) (p_val : Str) (p_gone : Bool) (o1 : okS p_key) (o2 : okS p_val) : Cal Tryz.prog 125 #[.string (bs (p_key)), .string (bs (p_val)), .bool (p_gone)] w fun v w' => v = .bool ((s_l3Write p_key p_val p_gone)) ∧ Ex w w' := by
 have hol3 : p_key.length ≤ 1073741824 := o1
 have hol4 : p_val.length ≤ 1073741824 := o2
 refine Cal.of (vs := [.string (bs (p_key)), .string (bs (p_val)), .bool (p_gone)]) Tryz.func125 rfl Tryz.ntmps125 rfl (CW.seq (CW.region (sd rfl (yl_assign rfl rfl (SeqR.done (tn (CW.seq (CW.region (sd rfl (yl_move rfl rfl ?_))))))))))
 refine sd rfl (yl_call Tryz.en112 rfl (opvs_cons rfl opvs_nil) (Cal.mono (c_s_l3Key p_key o1) ?_))
 rintro v6 w5 ⟨rfl, hE7⟩
 have hE7z := Ex.size hE7
 refine sd rfl (yl_move rfl rfl (bcase (s_l3Key p_key) (fun hb8 => ?_) (fun hb8 => ?_)))
 ·refine sy rfl rfl hb8 (yl_move rfl rfl (sy rfl rfl hb8 (yl_call Tryz.en148 rfl (opvs_cons rfl opvs_nil) (Cal.mono (c_s_l3Val p_val o2) ?_))))
  rintro v10 w9 ⟨rfl, hE11⟩
  have hE11z := Ex.size hE11
  refine sd rfl (yl_pick_t rfl rfl hb8 rfl (sd rfl (yl_move rfl rfl (bcase (s_l3Val p_val) (fun hb12 => ?_) (fun hb12 => ?_)))))
  ·refine sy rfl rfl hb12 (yl_move rfl rfl (sy rfl rfl hb12 (yl_not rfl rfl (sy rfl rfl hb12 (yl_move rfl rfl (bcase (p_gone) (fun hb13 => ?_) (fun hb13 => ?_)))))))
   ·refine sy rfl rfl (not_t hb13) (yl_move rfl rfl (sy rfl rfl (not_t hb13) (yl_seql (a := p_val) (b := ([] : Str)) rfl rfl rfl (sy rfl rfl hb12 (yl_pick_f rfl rfl (not_t hb13) rfl (sd rfl (yl_pick_t rfl rfl hb12 rfl (sd rfl (yl_assign rfl rfl (SeqR.done (tn (CW.ret (rr rfl (.cons rfl .nil) ?_)))))))))))))
    have hM14 : (s_l3Write p_key p_val p_gone) = (p_val == ([] : Str)) := by simp only [s_l3Write, hb8, hb12, hb13, cond_true, cond_false, loopE_done, loopE_ret]
    rw [hM14]
    exact ⟨rfl, (Ex.trans (Ex.trans (Ex.refl w) hE7) hE11)⟩
   ·refine sz rfl rfl (not_f hb13) (sz rfl rfl (not_f hb13) (sy rfl rfl hb12 (yl_pick_t rfl rfl (not_f hb13) rfl (sd rfl (yl_pick_t rfl rfl hb12 rfl (sd rfl (yl_assign rfl rfl (SeqR.done (tn (CW.ret (rr rfl (.cons rfl .nil) ?_)))))))))))
    have hM17 : (s_l3Write p_key p_val p_gone) = (true) := by simp only [s_l3Write, hb8, hb12, hb13, cond_true, cond_false, loopE_done, loopE_ret]
    rw [hM17]
    exact ⟨rfl, (Ex.trans (Ex.trans (Ex.refl w) hE7) hE11)⟩
  ·refine sz rfl rfl hb12 (sz rfl rfl hb12 (sz rfl rfl hb12 (sq rfl rfl (sq rfl rfl (sz rfl rfl hb12 (sd rfl (yl_pick_f rfl rfl hb12 rfl (sd rfl (yl_assign rfl rfl (SeqR.done ?_))))))))))
   refine tn (CW.ret (rr rfl (.cons rfl .nil) ?_))
   have hM20 : (s_l3Write p_key p_val p_gone) = (false) := by simp only [s_l3Write, hb8, hb12, cond_true, cond_false, loopE_done, loopE_ret]
   rw [hM20]
   exact ⟨rfl, (Ex.trans (Ex.trans (Ex.refl w) hE7) hE11)⟩
 ·refine sz rfl rfl hb8 (sz rfl rfl hb8 (sd rfl (yl_pick_f rfl rfl hb8 rfl (sd rfl (yl_move rfl rfl (sz rfl rfl rfl (sz rfl rfl rfl (sz rfl rfl rfl (sq rfl rfl (sq rfl rfl ?_))))))))))
  refine sz rfl rfl rfl (sd rfl (yl_pick_f rfl rfl rfl rfl (sd rfl (yl_assign rfl rfl (SeqR.done (tn (CW.ret (rr rfl (.cons rfl .nil) ?_))))))))
  have hM23 : (s_l3Write p_key p_val p_gone) = (false) := by simp only [s_l3Write, hb8, cond_true, cond_false, loopE_done, loopE_ret]
  rw [hM23]
  exact ⟨rfl, (Ex.trans (Ex.refl w) hE7)⟩
set_option maxRecDepth 100000 in
set_option maxHeartbeats 2000000 in
theorem c_s_l3Writes {A1 : Option Addr} {c1 : Nat} {w : World} (p_l : List DWrite) (h1 : RdS w (Iv 0 w.heap.size) (RF e_Write) 3 A1 p_l.length c1 p_l) (o2 : (okL ok_Write) p_l) : Cal Tryz.prog 93 #[.slice A1 p_l.length c1] w fun v w' => v = .bool ((s_l3Writes p_l)) ∧ Ex w w' := by
 have hol3 := o2.1
 refine Cal.of (vs := [.slice A1 p_l.length c1]) Tryz.func93 rfl Tryz.ntmps93 rfl (CW.seq (CW.region (sd rfl (yl_assign rfl rfl (SeqR.done (tn (CW.seq (CW.seq (CW.region ?_)))))))))
 refine sd rfl (yl_move rfl rfl (sd rfl (yl_len Tryz.un38 rfl rfl (sd rfl (yl_move rfl rfl (SeqR.done (tn (CW.block (CW.loop (fun m24 L25 w26 => ∃ (k4 : Nat), m24 = p_l.length - k4 ∧ k4 ≤ p_l.length ∧ w.heap.size ≤ w26.heap.size ∧ lkp L25 0 = some (.slice A1 p_l.length c1) ∧ lkp L25 5 = some (.slice A1 p_l.length c1) ∧ lkp L25 6 = some (.int .i64 ((p_l.length : Int))) ∧ lkp L25 7 = some (.int .i64 ((k4 : Int))) ∧ RdS w26 (Iv 0 w.heap.size) (RF e_Write) 3 A1 p_l.length c1 p_l ∧ Ex w w26 ∧ loopM (B_s_l3Writes_0 p_l) (p_l.length - k4) k4 () = loopM (B_s_l3Writes_0 p_l) (p_l.length - 0) 0 ()) (p_l.length - 0) ?_ ?_)))))))))
 ·exact ⟨0, rfl, (by omega), Nat.le_refl _, rfl, rfl, rfl, rfl, h1, (Ex.refl w), rfl⟩
 ·rintro m27 L28 w29 ⟨k4, rfl, hk30, hsz32, hl33, hl34, hl35, hl36, hf37, hf38, hI31⟩
  refine CW.sub (Sub.cons hl33 (Sub.cons hl34 (Sub.cons hl35 (Sub.cons hl36 (Sub.nil _))))) ?_
  have hf38z := Ex.size hf38
  have hbg39 := RdS.big hf37
  rcases Nat.lt_or_ge k4 p_l.length with hlt40 | hlt40
  ·refine CW.seq (CW.region (sd rfl (yl_lss rfl rfl rfl (SeqR.done (tn (CW.seq (CW.cond_t rfl (lt_t hlt40) (CW.skip (tn ?_)))))))))
   refine CW.seq (CW.block (CW.seq (CW.region (sd rfl (yl_move rfl rfl ?_)))))
   obtain ⟨eb41, eo41, ec41, eA41, eS41, ebl41, el41, eR41, eC41⟩ := RdS.atD hf37 d_Write (i := k4) (by first | omega | assumption)
   obtain rfl := eR41
   have eC41 : Cells w29 eb41 (eo41 + k4 * 3) [.string (bs ((p_l.getD k4 d_Write).Key)), .string (bs ((p_l.getD k4 d_Write).Val)), .bool ((p_l.getD k4 d_Write).Gone)] := eC41
   refine sd rfl (yl_indexAddrN Tryz.un38 Tryz.ty112 rfl rfl rfl eA41 (by first | omega | assumption | (simp only [IntKind.wrap_i64] at *; omega)) (sd rfl (yl_loadN (cs := [.string (bs ((p_l.getD k4 d_Write).Key)), .string (bs ((p_l.getD k4 d_Write).Val)), .bool ((p_l.getD k4 d_Write).Gone)]) Tryz.ty112 rfl rfl eC41 rfl (sd rfl (yl_alloc Tryz.ty112 (cs := [.string (bs (([] : Str))), .string (bs (([] : Str))), .bool (false)]) rfl rfl ?_)))))
   intro b42 w43 hs44 hz45 hB46 hE47
   refine sd rfl (yl_assign rfl rfl (SeqR.u rfl rfl (yl_store (vs := [.string (bs ((p_l.getD k4 d_Write).Key)), .string (bs ((p_l.getD k4 d_Write).Val)), .bool ((p_l.getD k4 d_Write).Gone)]) Tryz.ty112 rfl rfl rfl rfl rfl rfl hB46 (Nat.le_of_ble_eq_true rfl) ?_)))
   intro w48 hB49 hO50
   have hB49 : Box w48 b42 112 [.string (bs ((p_l.getD k4 d_Write).Key)), .string (bs ((p_l.getD k4 d_Write).Val)), .bool ((p_l.getD k4 d_Write).Gone)] := hB49
   have hO50z := hO50.size
   refine SeqR.done (tn (CW.seq (bcase (s_l3Write ((p_l.getD k4 d_Write).Key) ((p_l.getD k4 d_Write).Val) ((p_l.getD k4 d_Write).Gone)) (fun hb52 => ?_) (fun hb52 => ?_))))
   ·refine bcase (decide (0 < (k4 : Int))) (fun hb54 => ?_) (fun hb54 => ?_)
    ·have hb54p := dec_t hb54
     have q57 := RdS.only good_Write (RdS.ex good_Write hf37 hE47) hO50 (by simp only [Iv]; omega)
     obtain ⟨eb58, eo58, ec58, eA58, eS58, ebl58, el58, eR58, eC58⟩ := RdS.atD q57 d_Write (i := (IntKind.wrap .i64 ((k4 : Int) - 1)).toNat) (by first | omega | assumption | (simp only [IntKind.wrap_i64] at *; omega))
     obtain rfl := eR58
     have eC58 : Cells w48 eb58 (eo58 + ((IntKind.wrap .i64 ((k4 : Int) - 1)).toNat) * 3) [.string (bs ((p_l.getD ((IntKind.wrap .i64 ((k4 : Int) - 1)).toNat) d_Write).Key)), .string (bs ((p_l.getD ((IntKind.wrap .i64 ((k4 : Int) - 1)).toNat) d_Write).Val)), .bool ((p_l.getD ((IntKind.wrap .i64 ((k4 : Int) - 1)).toNat) d_Write).Gone)] := eC58
     refine CW.drawsI 23 (vgetI [DetI (.pointer (some ⟨b42, 0 + 0, none⟩)), DetI (.string (bs ((p_l.getD k4 d_Write).Key))), DetI (.pointer (some ⟨b42, 0 + 1, none⟩)), DetI (.string (bs ((p_l.getD k4 d_Write).Val))), DetI (.pointer (some ⟨b42, 0 + 2, none⟩)), DetI (.bool ((p_l.getD k4 d_Write).Gone)), DetI (.bool ((s_l3Write ((p_l.getD k4 d_Write).Key) ((p_l.getD k4 d_Write).Val) ((p_l.getD k4 d_Write).Gone)))), DetI (.bool (!(s_l3Write ((p_l.getD k4 d_Write).Key) ((p_l.getD k4 d_Write).Val) ((p_l.getD k4 d_Write).Gone)))), DetI (.bool (!(s_l3Write ((p_l.getD k4 d_Write).Key) ((p_l.getD k4 d_Write).Val) ((p_l.getD k4 d_Write).Gone)))), DetI (.int .i64 ((k4 : Int))), DetI (.bool (decide (0 < (k4 : Int)))), DetI (.bool (decide (0 < (k4 : Int)))), DetI (.slice A1 p_l.length c1), DetI (.int .i64 ((k4 : Int))), DetI (.int .i64 (IntKind.wrap .i64 ((k4 : Int) - 1))), DetI (.pointer (some ⟨eb58, eo58 + ((IntKind.wrap .i64 ((k4 : Int) - 1)).toNat) * 3, none⟩)), DetI (.pointer (some ⟨eb58, eo58 + ((IntKind.wrap .i64 ((k4 : Int) - 1)).toNat) * 3 + 0, none⟩)), DetI (.string (bs ((p_l.getD ((IntKind.wrap .i64 ((k4 : Int) - 1)).toNat) d_Write).Key))), DetI (.pointer (some ⟨b42, 0 + 0, none⟩)), DetI (.string (bs ((p_l.getD k4 d_Write).Key))), DetI (.bool (!(sLt ((p_l.getD ((IntKind.wrap .i64 ((k4 : Int) - 1)).toNat) d_Write).Key) ((p_l.getD k4 d_Write).Key)))), DetI (.bool (!(sLt ((p_l.getD ((IntKind.wrap .i64 ((k4 : Int) - 1)).toNat) d_Write).Key) ((p_l.getD k4 d_Write).Key)))), DetI (.bool (!(sLt ((p_l.getD ((IntKind.wrap .i64 ((k4 : Int) - 1)).toNat) d_Write).Key) ((p_l.getD k4 d_Write).Key))))]) Tryz.follows rfl rfl rfl rfl rfl rfl (vgetI_stable ⟨StableI.det _, StableI.det _, StableI.det _, StableI.det _, StableI.det _, StableI.det _, StableI.det _, StableI.det _, StableI.det _, StableI.det _, StableI.det _, StableI.det _, StableI.det _, StableI.det _, StableI.det _, StableI.det _, StableI.det _, StableI.det _, StableI.det _, StableI.det _, StableI.det _, StableI.det _, StableI.det _, trivial⟩) ⟨?_, ?_, ?_, ?_, ?_, ?_, ?_, ?_, ?_, ?_, ?_, ?_, ?_, ?_, ?_, ?_, ?_, ?_, ?_, ?_, ?_, ?_, ?_, trivial⟩ ?_
     ·exact fun _ _ h => os rfl ((yl_fieldAddr Tryz.fd112_0 rfl (h.old 4 _ rfl rfl) kI))
     ·exact fun _ _ h => os rfl ((yl_load1 Tryz.ty9 rfl (h.dt 0 12 rfl rfl rfl) (((Box.ex hB49 h.ex).cell 0).trans rfl) kI))
     ·exact fun _ _ h => os rfl ((yl_fieldAddr Tryz.fd112_1 rfl (h.old 4 _ rfl rfl) kI))
     ·exact fun _ _ h => os rfl ((yl_load1 Tryz.ty9 rfl (h.dt 2 14 rfl rfl rfl) (((Box.ex hB49 h.ex).cell 1).trans rfl) kI))
     ·exact fun _ _ h => os rfl ((yl_fieldAddr Tryz.fd112_2 rfl (h.old 4 _ rfl rfl) kI))
     ·exact fun _ _ h => os rfl ((yl_load1 Tryz.ty4 rfl (h.dt 4 16 rfl rfl rfl) (((Box.ex hB49 h.ex).cell 2).trans rfl) kI))
     ·intro L92 w93 hi94
      refine OpR.op' rfl (yl_call Tryz.en125 rfl (opvs_cons (hi94.dt 1 13 rfl rfl rfl) (opvs_cons (hi94.dt 3 15 rfl rfl rfl) (opvs_cons (hi94.dt 5 17 rfl rfl rfl) opvs_nil))) (Cal.mono (c_s_l3Write ((p_l.getD k4 d_Write).Key) ((p_l.getD k4 d_Write).Val) ((p_l.getD k4 d_Write).Gone) ((okL.getD o2 ok_d_Write _).1) ((okL.getD o2 ok_d_Write _).2)) ?_))
      rintro v100 w99 ⟨rfl, hE101⟩
      exact ⟨rfl, hE101⟩
     ·exact fun _ _ h => os rfl ((yl_not rfl (h.dt 6 18 rfl rfl rfl) kI))
     ·exact fun _ _ h => os rfl ((yl_move rfl (h.dt 7 19 rfl rfl rfl) kI))
     ·exact fun _ _ h => OpR.want rfl rfl (h.dt 8 20 rfl rfl rfl) (not_t hb52) (Yl.sameI (yl_move rfl (h.old 3 _ rfl rfl) kI))
     ·exact fun _ _ h => OpR.want rfl rfl (h.dt 8 20 rfl rfl rfl) (not_t hb52) (Yl.sameI (yl_gtr rfl (h.dt 9 21 rfl rfl rfl) rfl kI))
     ·exact fun _ _ h => OpR.want rfl rfl (h.dt 8 20 rfl rfl rfl) (not_t hb52) (Yl.sameI (yl_move rfl (h.dt 10 22 rfl rfl rfl) kI))
     ·exact fun _ _ h => OpR.want rfl rfl (h.dt 11 23 rfl rfl rfl) hb54 (Yl.sameI (yl_move rfl (h.old 0 _ rfl rfl) kI))
     ·exact fun _ _ h => OpR.want rfl rfl (h.dt 11 23 rfl rfl rfl) hb54 (Yl.sameI (yl_move rfl (h.old 3 _ rfl rfl) kI))
     ·exact fun _ _ h => OpR.want rfl rfl (h.dt 11 23 rfl rfl rfl) hb54 (Yl.sameI (yl_sub rfl (h.dt 13 25 rfl rfl rfl) rfl kI))
     ·intro L148 w149 hi150
      have hE151 := hi150.ex
      have hE151z := Ex.size hE151
      exact OpR.want rfl rfl (hi150.dt 11 23 rfl rfl rfl) hb54 (Yl.sameI (yl_indexAddr Tryz.un38 Tryz.ty112 rfl (hi150.dt 12 24 rfl rfl rfl) (hi150.dt 14 26 rfl rfl rfl) eA58 (by first | omega | assumption | (simp only [IntKind.wrap_i64] at *; omega)) (by first | omega | assumption | (simp only [IntKind.wrap_i64] at *; omega)) kI))
     ·exact fun _ _ h => OpR.want rfl rfl (h.dt 11 23 rfl rfl rfl) hb54 (Yl.sameI (yl_fieldAddr Tryz.fd112_0 rfl (h.dt 15 27 rfl rfl rfl) kI))
     ·exact fun _ _ h => OpR.want rfl rfl (h.dt 11 23 rfl rfl rfl) hb54 (Yl.sameI (yl_load1 Tryz.ty9 rfl (h.dt 16 28 rfl rfl rfl) ((Cells.ex eC58 h.ex) 0 _ rfl) kI))
     ·exact fun _ _ h => OpR.want rfl rfl (h.dt 11 23 rfl rfl rfl) hb54 (Yl.sameI (yl_fieldAddr Tryz.fd112_0 rfl (h.old 4 _ rfl rfl) kI))
     ·exact fun _ _ h => OpR.want rfl rfl (h.dt 11 23 rfl rfl rfl) hb54 (Yl.sameI (yl_load1 Tryz.ty9 rfl (h.dt 18 30 rfl rfl rfl) (((Box.ex hB49 h.ex).cell 0).trans rfl) kI))
     ·exact fun _ _ h => OpR.want rfl rfl (h.dt 11 23 rfl rfl rfl) hb54 (Yl.sameI (yl_sgeq (a := ((p_l.getD ((IntKind.wrap .i64 ((k4 : Int) - 1)).toNat) d_Write).Key)) (b := ((p_l.getD k4 d_Write).Key)) rfl (h.dt 17 29 rfl rfl rfl) (h.dt 19 31 rfl rfl rfl) kI))
     ·exact fun _ _ h => OpR.want rfl rfl (h.dt 8 20 rfl rfl rfl) (not_t hb52) (Yl.sameI (yl_pick_t rfl (h.dt 11 23 rfl rfl rfl) hb54 (h.dt 20 32 rfl rfl rfl) kI))
     ·exact fun _ _ h => os rfl ((yl_pick_f rfl (h.dt 8 20 rfl rfl rfl) (not_t hb52) (h.dt 21 33 rfl rfl rfl) kI))
     ·intro fl204 fh205 L201 w202 hp203
      have hE206 := hp203.ex
      have hE206z := Ex.size hE206
      refine SeqR.done (tn (CW.sub (Sub.cons (d := 0) (hp203.old 0 _ rfl rfl) (Sub.cons (d := 5) (hp203.old 5 _ rfl rfl) (Sub.cons (d := 6) (hp203.old 6 _ rfl rfl) (Sub.cons (d := 7) (hp203.old 7 _ rfl rfl) (Sub.cons (d := 21) (hp203.nt 9 21 rfl rfl rfl) (Sub.cons (d := 22) (hp203.nt 10 22 rfl rfl rfl) (Sub.cons (d := 23) (hp203.nt 11 23 rfl rfl rfl) (Sub.cons (d := 24) (hp203.nt 12 24 rfl rfl rfl) (Sub.cons (d := 25) (hp203.nt 13 25 rfl rfl rfl) (Sub.cons (d := 26) (hp203.nt 14 26 rfl rfl rfl) (Sub.cons (d := 27) (hp203.nt 15 27 rfl rfl rfl) (Sub.cons (d := 28) (hp203.nt 16 28 rfl rfl rfl) (Sub.cons (d := 29) (hp203.nt 17 29 rfl rfl rfl) (Sub.cons (d := 30) (hp203.nt 18 30 rfl rfl rfl) (Sub.cons (d := 31) (hp203.nt 19 31 rfl rfl rfl) (Sub.cons (d := 32) (hp203.nt 20 32 rfl rfl rfl) (Sub.cons (d := 33) (hp203.nt 21 33 rfl rfl rfl) (Sub.cons (d := 34) (hp203.nt 22 34 rfl rfl rfl) (Sub.nil _))))))))))))))))))) (bcase (sLt ((p_l.getD ((IntKind.wrap .i64 ((k4 : Int) - 1)).toNat) d_Write).Key) ((p_l.getD k4 d_Write).Key)) (fun hb225 => ?_) (fun hb225 => ?_))))
      ·refine CW.cond_f rfl (not_t hb225) (CW.skip (bn (tn (CW.region (sd rfl (yl_inc rfl rfl rfl (by omega) (sd rfl (yl_move rfl rfl (SeqR.done (tn ?_))))))))))
       have hB226 : B_s_l3Writes_0 p_l k4 () = .cont () := by simp only [B_s_l3Writes_0, hb52, hb54, hb225, cond_true, cond_false, loopE_done, loopE_ret]
       exact ⟨p_l.length - (k4 + 1), by omega, k4 + 1, rfl, hlt40, (by omega), rfl, rfl, rfl, rfl, (RdS.ex good_Write q57 hE206), (Ex.trans (Below.only (Ex.trans hf38 hE47) hO50 (by omega)) hE206), (loopM.cont hlt40 hB226).symm.trans hI31⟩
      ·refine CW.cond_t rfl (not_f hb225) (CW.seq (CW.region (sd rfl (yl_assign rfl rfl (SeqR.done (tn (CW.ret (br (tr ?_)))))))))
       refine tr ?_
       have hB232 : B_s_l3Writes_0 p_l k4 () = .ret false := by simp only [B_s_l3Writes_0, hb52, hb54, hb225, cond_true, cond_false, loopE_done, loopE_ret]
       have hL231 : loopM (B_s_l3Writes_0 p_l) (p_l.length - 0) 0 () = .ret false := hI31.symm.trans (loopM.ret hlt40 hB232)
       refine br (tr (rr rfl (.cons rfl .nil) ?_))
       have hM233 : (s_l3Writes p_l) = (false) := by simp only [s_l3Writes, hb52, hb54, hb225, hL231, cond_true, cond_false, loopE_done, loopE_ret]
       rw [hM233]
       exact ⟨rfl, (Ex.trans (Below.only (Ex.trans hf38 hE47) hO50 (by omega)) hE206)⟩
    ·have hb54p := dec_f hb54
     refine CW.drawsI 23 (vgetI [DetI (.pointer (some ⟨b42, 0 + 0, none⟩)), DetI (.string (bs ((p_l.getD k4 d_Write).Key))), DetI (.pointer (some ⟨b42, 0 + 1, none⟩)), DetI (.string (bs ((p_l.getD k4 d_Write).Val))), DetI (.pointer (some ⟨b42, 0 + 2, none⟩)), DetI (.bool ((p_l.getD k4 d_Write).Gone)), DetI (.bool ((s_l3Write ((p_l.getD k4 d_Write).Key) ((p_l.getD k4 d_Write).Val) ((p_l.getD k4 d_Write).Gone)))), DetI (.bool (!(s_l3Write ((p_l.getD k4 d_Write).Key) ((p_l.getD k4 d_Write).Val) ((p_l.getD k4 d_Write).Gone)))), DetI (.bool (!(s_l3Write ((p_l.getD k4 d_Write).Key) ((p_l.getD k4 d_Write).Val) ((p_l.getD k4 d_Write).Gone)))), DetI (.int .i64 ((k4 : Int))), DetI (.bool (decide (0 < (k4 : Int)))), DetI (.bool (decide (0 < (k4 : Int)))), DetI (undef), DetI (undef), DetI (undef), DetI (undef), DetI (undef), DetI (undef), DetI (undef), DetI (undef), DetI (undef), DetI (.bool (false)), DetI (.bool (false))]) Tryz.follows rfl rfl rfl rfl rfl rfl (vgetI_stable ⟨StableI.det _, StableI.det _, StableI.det _, StableI.det _, StableI.det _, StableI.det _, StableI.det _, StableI.det _, StableI.det _, StableI.det _, StableI.det _, StableI.det _, StableI.det _, StableI.det _, StableI.det _, StableI.det _, StableI.det _, StableI.det _, StableI.det _, StableI.det _, StableI.det _, StableI.det _, StableI.det _, trivial⟩) ⟨?_, ?_, ?_, ?_, ?_, ?_, ?_, ?_, ?_, ?_, ?_, ?_, ?_, ?_, ?_, ?_, ?_, ?_, ?_, ?_, ?_, ?_, ?_, trivial⟩ ?_
     ·exact fun _ _ h => os rfl ((yl_fieldAddr Tryz.fd112_0 rfl (h.old 4 _ rfl rfl) kI))
     ·exact fun _ _ h => os rfl ((yl_load1 Tryz.ty9 rfl (h.dt 0 12 rfl rfl rfl) (((Box.ex hB49 h.ex).cell 0).trans rfl) kI))
     ·exact fun _ _ h => os rfl ((yl_fieldAddr Tryz.fd112_1 rfl (h.old 4 _ rfl rfl) kI))
     ·exact fun _ _ h => os rfl ((yl_load1 Tryz.ty9 rfl (h.dt 2 14 rfl rfl rfl) (((Box.ex hB49 h.ex).cell 1).trans rfl) kI))
     ·exact fun _ _ h => os rfl ((yl_fieldAddr Tryz.fd112_2 rfl (h.old 4 _ rfl rfl) kI))
     ·exact fun _ _ h => os rfl ((yl_load1 Tryz.ty4 rfl (h.dt 4 16 rfl rfl rfl) (((Box.ex hB49 h.ex).cell 2).trans rfl) kI))
     ·intro L271 w272 hi273
      refine OpR.op' rfl (yl_call Tryz.en125 rfl (opvs_cons (hi273.dt 1 13 rfl rfl rfl) (opvs_cons (hi273.dt 3 15 rfl rfl rfl) (opvs_cons (hi273.dt 5 17 rfl rfl rfl) opvs_nil))) (Cal.mono (c_s_l3Write ((p_l.getD k4 d_Write).Key) ((p_l.getD k4 d_Write).Val) ((p_l.getD k4 d_Write).Gone) ((okL.getD o2 ok_d_Write _).1) ((okL.getD o2 ok_d_Write _).2)) ?_))
      rintro v279 w278 ⟨rfl, hE280⟩
      exact ⟨rfl, hE280⟩
     ·exact fun _ _ h => os rfl ((yl_not rfl (h.dt 6 18 rfl rfl rfl) kI))
     ·exact fun _ _ h => os rfl ((yl_move rfl (h.dt 7 19 rfl rfl rfl) kI))
     ·exact fun _ _ h => OpR.want rfl rfl (h.dt 8 20 rfl rfl rfl) (not_t hb52) (Yl.sameI (yl_move rfl (h.old 3 _ rfl rfl) kI))
     ·exact fun _ _ h => OpR.want rfl rfl (h.dt 8 20 rfl rfl rfl) (not_t hb52) (Yl.sameI (yl_gtr rfl (h.dt 9 21 rfl rfl rfl) rfl kI))
     ·exact fun _ _ h => OpR.want rfl rfl (h.dt 8 20 rfl rfl rfl) (not_t hb52) (Yl.sameI (yl_move rfl (h.dt 10 22 rfl rfl rfl) kI))
     ·exact fun _ _ h => OpR.skip rfl rfl (h.dt 11 23 rfl rfl rfl) hb54 ⟨rfl, Ex.refl _⟩
     ·exact fun _ _ h => OpR.skip rfl rfl (h.dt 11 23 rfl rfl rfl) hb54 ⟨rfl, Ex.refl _⟩
     ·exact fun _ _ h => OpR.skip rfl rfl (h.dt 11 23 rfl rfl rfl) hb54 ⟨rfl, Ex.refl _⟩
     ·exact fun _ _ h => OpR.skip rfl rfl (h.dt 11 23 rfl rfl rfl) hb54 ⟨rfl, Ex.refl _⟩
     ·exact fun _ _ h => OpR.skip rfl rfl (h.dt 11 23 rfl rfl rfl) hb54 ⟨rfl, Ex.refl _⟩
     ·exact fun _ _ h => OpR.skip rfl rfl (h.dt 11 23 rfl rfl rfl) hb54 ⟨rfl, Ex.refl _⟩
     ·exact fun _ _ h => OpR.skip rfl rfl (h.dt 11 23 rfl rfl rfl) hb54 ⟨rfl, Ex.refl _⟩
     ·exact fun _ _ h => OpR.skip rfl rfl (h.dt 11 23 rfl rfl rfl) hb54 ⟨rfl, Ex.refl _⟩
     ·exact fun _ _ h => OpR.skip rfl rfl (h.dt 11 23 rfl rfl rfl) hb54 ⟨rfl, Ex.refl _⟩
     ·exact fun _ _ h => OpR.want rfl rfl (h.dt 8 20 rfl rfl rfl) (not_t hb52) (Yl.sameI (yl_pick_f rfl (h.dt 11 23 rfl rfl rfl) hb54 rfl kI))
     ·exact fun _ _ h => os rfl ((yl_pick_f rfl (h.dt 8 20 rfl rfl rfl) (not_t hb52) (h.dt 21 33 rfl rfl rfl) kI))
     ·intro fl370 fh371 L367 w368 hp369
      have hE372 := hp369.ex
      have hE372z := Ex.size hE372
      refine SeqR.done (tn (CW.sub (Sub.cons (d := 0) (hp369.old 0 _ rfl rfl) (Sub.cons (d := 5) (hp369.old 5 _ rfl rfl) (Sub.cons (d := 6) (hp369.old 6 _ rfl rfl) (Sub.cons (d := 7) (hp369.old 7 _ rfl rfl) (Sub.cons (d := 21) (hp369.nt 9 21 rfl rfl rfl) (Sub.cons (d := 22) (hp369.nt 10 22 rfl rfl rfl) (Sub.cons (d := 23) (hp369.nt 11 23 rfl rfl rfl) (Sub.cons (d := 24) (hp369.nt 12 24 rfl rfl rfl) (Sub.cons (d := 25) (hp369.nt 13 25 rfl rfl rfl) (Sub.cons (d := 26) (hp369.nt 14 26 rfl rfl rfl) (Sub.cons (d := 27) (hp369.nt 15 27 rfl rfl rfl) (Sub.cons (d := 28) (hp369.nt 16 28 rfl rfl rfl) (Sub.cons (d := 29) (hp369.nt 17 29 rfl rfl rfl) (Sub.cons (d := 30) (hp369.nt 18 30 rfl rfl rfl) (Sub.cons (d := 31) (hp369.nt 19 31 rfl rfl rfl) (Sub.cons (d := 32) (hp369.nt 20 32 rfl rfl rfl) (Sub.cons (d := 33) (hp369.nt 21 33 rfl rfl rfl) (Sub.cons (d := 34) (hp369.nt 22 34 rfl rfl rfl) (Sub.nil _))))))))))))))))))) (CW.cond_f rfl rfl (CW.skip (bn (tn (CW.region (sd rfl (yl_inc rfl rfl rfl (by omega) ?_)))))))))
      refine sd rfl (yl_move rfl rfl (SeqR.done (tn ?_)))
      have hB391 : B_s_l3Writes_0 p_l k4 () = .cont () := by simp only [B_s_l3Writes_0, hb52, hb54, cond_true, cond_false, loopE_done, loopE_ret]
      exact ⟨p_l.length - (k4 + 1), by omega, k4 + 1, rfl, hlt40, (by omega), rfl, rfl, rfl, rfl, (RdS.ex good_Write (RdS.only good_Write (RdS.ex good_Write hf37 hE47) hO50 (by simp only [Iv]; omega)) hE372), (Ex.trans (Below.only (Ex.trans hf38 hE47) hO50 (by omega)) hE372), (loopM.cont hlt40 hB391).symm.trans hI31⟩
   ·refine CW.drawsI 23 (vgetI [DetI (.pointer (some ⟨b42, 0 + 0, none⟩)), DetI (.string (bs ((p_l.getD k4 d_Write).Key))), DetI (.pointer (some ⟨b42, 0 + 1, none⟩)), DetI (.string (bs ((p_l.getD k4 d_Write).Val))), DetI (.pointer (some ⟨b42, 0 + 2, none⟩)), DetI (.bool ((p_l.getD k4 d_Write).Gone)), DetI (.bool ((s_l3Write ((p_l.getD k4 d_Write).Key) ((p_l.getD k4 d_Write).Val) ((p_l.getD k4 d_Write).Gone)))), DetI (.bool (!(s_l3Write ((p_l.getD k4 d_Write).Key) ((p_l.getD k4 d_Write).Val) ((p_l.getD k4 d_Write).Gone)))), DetI (.bool (!(s_l3Write ((p_l.getD k4 d_Write).Key) ((p_l.getD k4 d_Write).Val) ((p_l.getD k4 d_Write).Gone)))), DetI (undef), DetI (undef), DetI (undef), DetI (undef), DetI (undef), DetI (undef), DetI (undef), DetI (undef), DetI (undef), DetI (undef), DetI (undef), DetI (undef), DetI (undef), DetI (.bool (true))]) Tryz.follows rfl rfl rfl rfl rfl rfl (vgetI_stable ⟨StableI.det _, StableI.det _, StableI.det _, StableI.det _, StableI.det _, StableI.det _, StableI.det _, StableI.det _, StableI.det _, StableI.det _, StableI.det _, StableI.det _, StableI.det _, StableI.det _, StableI.det _, StableI.det _, StableI.det _, StableI.det _, StableI.det _, StableI.det _, StableI.det _, StableI.det _, StableI.det _, trivial⟩) ⟨?_, ?_, ?_, ?_, ?_, ?_, ?_, ?_, ?_, ?_, ?_, ?_, ?_, ?_, ?_, ?_, ?_, ?_, ?_, ?_, ?_, ?_, ?_, trivial⟩ ?_
    ·exact fun _ _ h => os rfl ((yl_fieldAddr Tryz.fd112_0 rfl (h.old 4 _ rfl rfl) kI))
    ·exact fun _ _ h => os rfl ((yl_load1 Tryz.ty9 rfl (h.dt 0 12 rfl rfl rfl) (((Box.ex hB49 h.ex).cell 0).trans rfl) kI))
    ·exact fun _ _ h => os rfl ((yl_fieldAddr Tryz.fd112_1 rfl (h.old 4 _ rfl rfl) kI))
    ·exact fun _ _ h => os rfl ((yl_load1 Tryz.ty9 rfl (h.dt 2 14 rfl rfl rfl) (((Box.ex hB49 h.ex).cell 1).trans rfl) kI))
    ·exact fun _ _ h => os rfl ((yl_fieldAddr Tryz.fd112_2 rfl (h.old 4 _ rfl rfl) kI))
    ·exact fun _ _ h => os rfl ((yl_load1 Tryz.ty4 rfl (h.dt 4 16 rfl rfl rfl) (((Box.ex hB49 h.ex).cell 2).trans rfl) kI))
    ·intro L432 w433 hi434
     refine OpR.op' rfl (yl_call Tryz.en125 rfl (opvs_cons (hi434.dt 1 13 rfl rfl rfl) (opvs_cons (hi434.dt 3 15 rfl rfl rfl) (opvs_cons (hi434.dt 5 17 rfl rfl rfl) opvs_nil))) (Cal.mono (c_s_l3Write ((p_l.getD k4 d_Write).Key) ((p_l.getD k4 d_Write).Val) ((p_l.getD k4 d_Write).Gone) ((okL.getD o2 ok_d_Write _).1) ((okL.getD o2 ok_d_Write _).2)) ?_))
     rintro v440 w439 ⟨rfl, hE441⟩
     exact ⟨rfl, hE441⟩
    ·exact fun _ _ h => os rfl ((yl_not rfl (h.dt 6 18 rfl rfl rfl) kI))
    ·exact fun _ _ h => os rfl ((yl_move rfl (h.dt 7 19 rfl rfl rfl) kI))
    ·exact fun _ _ h => OpR.skip rfl rfl (h.dt 8 20 rfl rfl rfl) (not_f hb52) ⟨rfl, Ex.refl _⟩
    ·exact fun _ _ h => OpR.skip rfl rfl (h.dt 8 20 rfl rfl rfl) (not_f hb52) ⟨rfl, Ex.refl _⟩
    ·exact fun _ _ h => OpR.skip rfl rfl (h.dt 8 20 rfl rfl rfl) (not_f hb52) ⟨rfl, Ex.refl _⟩
    ·exact fun _ _ h => OpR.undef rfl rfl (h.dt 11 23 rfl rfl rfl) ⟨rfl, Ex.refl _⟩
    ·exact fun _ _ h => OpR.undef rfl rfl (h.dt 11 23 rfl rfl rfl) ⟨rfl, Ex.refl _⟩
    ·exact fun _ _ h => OpR.undef rfl rfl (h.dt 11 23 rfl rfl rfl) ⟨rfl, Ex.refl _⟩
    ·exact fun _ _ h => OpR.undef rfl rfl (h.dt 11 23 rfl rfl rfl) ⟨rfl, Ex.refl _⟩
    ·exact fun _ _ h => OpR.undef rfl rfl (h.dt 11 23 rfl rfl rfl) ⟨rfl, Ex.refl _⟩
    ·exact fun _ _ h => OpR.undef rfl rfl (h.dt 11 23 rfl rfl rfl) ⟨rfl, Ex.refl _⟩
    ·exact fun _ _ h => OpR.undef rfl rfl (h.dt 11 23 rfl rfl rfl) ⟨rfl, Ex.refl _⟩
    ·exact fun _ _ h => OpR.undef rfl rfl (h.dt 11 23 rfl rfl rfl) ⟨rfl, Ex.refl _⟩
    ·exact fun _ _ h => OpR.undef rfl rfl (h.dt 11 23 rfl rfl rfl) ⟨rfl, Ex.refl _⟩
    ·exact fun _ _ h => OpR.skip rfl rfl (h.dt 8 20 rfl rfl rfl) (not_f hb52) ⟨rfl, Ex.refl _⟩
    ·exact fun _ _ h => os rfl ((yl_pick_t rfl (h.dt 8 20 rfl rfl rfl) (not_f hb52) rfl kI))
    ·intro fl526 fh527 L523 w524 hp525
     have hE528 := hp525.ex
     have hE528z := Ex.size hE528
     refine SeqR.done (tn (CW.sub (Sub.cons (d := 0) (hp525.old 0 _ rfl rfl) (Sub.cons (d := 5) (hp525.old 5 _ rfl rfl) (Sub.cons (d := 6) (hp525.old 6 _ rfl rfl) (Sub.cons (d := 7) (hp525.old 7 _ rfl rfl) (Sub.cons (d := 21) (hp525.nt 9 21 rfl rfl rfl) (Sub.cons (d := 22) (hp525.nt 10 22 rfl rfl rfl) (Sub.cons (d := 23) (hp525.nt 11 23 rfl rfl rfl) (Sub.cons (d := 24) (hp525.nt 12 24 rfl rfl rfl) (Sub.cons (d := 25) (hp525.nt 13 25 rfl rfl rfl) (Sub.cons (d := 26) (hp525.nt 14 26 rfl rfl rfl) (Sub.cons (d := 27) (hp525.nt 15 27 rfl rfl rfl) (Sub.cons (d := 28) (hp525.nt 16 28 rfl rfl rfl) (Sub.cons (d := 29) (hp525.nt 17 29 rfl rfl rfl) (Sub.cons (d := 30) (hp525.nt 18 30 rfl rfl rfl) (Sub.cons (d := 31) (hp525.nt 19 31 rfl rfl rfl) (Sub.cons (d := 32) (hp525.nt 20 32 rfl rfl rfl) (Sub.cons (d := 33) (hp525.nt 21 33 rfl rfl rfl) (Sub.cons (d := 34) (hp525.nt 22 34 rfl rfl rfl) (Sub.nil _))))))))))))))))))) (CW.cond_t rfl rfl (CW.seq (CW.region (sd rfl (yl_assign rfl rfl (SeqR.done (tn ?_)))))))))
     refine CW.ret (br (tr (tr ?_)))
     have hB548 : B_s_l3Writes_0 p_l k4 () = .ret false := by simp only [B_s_l3Writes_0, hb52, cond_true, cond_false, loopE_done, loopE_ret]
     have hL547 : loopM (B_s_l3Writes_0 p_l) (p_l.length - 0) 0 () = .ret false := hI31.symm.trans (loopM.ret hlt40 hB548)
     refine br (tr (rr rfl (.cons rfl .nil) ?_))
     have hM549 : (s_l3Writes p_l) = (false) := by simp only [s_l3Writes, hb52, hL547, cond_true, cond_false, loopE_done, loopE_ret]
     rw [hM549]
     exact ⟨rfl, (Ex.trans (Below.only (Ex.trans hf38 hE47) hO50 (by omega)) hE528)⟩
  ·refine CW.seq (CW.region (sd rfl (yl_lss rfl rfl rfl (SeqR.done (tn (CW.seq (CW.cond_f rfl (lt_f hlt40) (CW.exit (tx ?_)))))))))
   refine tx ?_
   have hL553 : loopM (B_s_l3Writes_0 p_l) (p_l.length - 0) 0 () = .done () := hI31.symm.trans (loopM.stop hlt40)
   refine bx (tn (CW.seq (CW.region (sd rfl (yl_move rfl rfl (sd rfl (yl_len Tryz.un38 rfl rfl (sd rfl (yl_leq rfl rfl rfl (sd rfl (yl_assign rfl rfl (SeqR.done ?_))))))))))))
   refine tn (CW.ret (rr rfl (.cons rfl .nil) ?_))
   have hM554 : (s_l3Writes p_l) = (decide ((p_l.length : Int) ≤ 24)) := by simp only [s_l3Writes, hL553, cond_true, cond_false, loopE_done, loopE_ret]
   rw [hM554]
   exact ⟨rfl, hf38⟩
set_option maxRecDepth 100000 in
set_option maxHeartbeats 2000000 in
theorem c_s_l5Rows {A1 : Option Addr} {c1 : Nat} {w : World} (p_l : List DWrite) (h1 : RdS w (Iv 0 w.heap.size) (RF e_Write) 3 A1 p_l.length c1 p_l) (o2 : (okL ok_Write) p_l) : Cal Tryz.prog 57 #[.slice A1 p_l.length c1] w fun v w' => v = .bool ((s_l5Rows p_l)) ∧ Ex w w' := by
 have hol3 := o2.1
 refine Cal.of (vs := [.slice A1 p_l.length c1]) Tryz.func57 rfl Tryz.ntmps57 rfl (CW.seq (CW.region (sd rfl (yl_assign rfl rfl (SeqR.done (tn (CW.seq (CW.seq (CW.region ?_)))))))))
 refine sd rfl (yl_move rfl rfl (sd rfl (yl_len Tryz.un38 rfl rfl (sd rfl (yl_move rfl rfl (SeqR.done (tn (CW.block (CW.loop (fun m16 L17 w18 => ∃ (k4 : Nat), m16 = p_l.length - k4 ∧ k4 ≤ p_l.length ∧ w.heap.size ≤ w18.heap.size ∧ lkp L17 0 = some (.slice A1 p_l.length c1) ∧ lkp L17 5 = some (.slice A1 p_l.length c1) ∧ lkp L17 6 = some (.int .i64 ((p_l.length : Int))) ∧ lkp L17 7 = some (.int .i64 ((k4 : Int))) ∧ RdS w18 (Iv 0 w.heap.size) (RF e_Write) 3 A1 p_l.length c1 p_l ∧ Ex w w18 ∧ loopM (B_s_l5Rows_0 p_l) (p_l.length - k4) k4 () = loopM (B_s_l5Rows_0 p_l) (p_l.length - 0) 0 ()) (p_l.length - 0) ?_ ?_)))))))))
 ·exact ⟨0, rfl, (by omega), Nat.le_refl _, rfl, rfl, rfl, rfl, h1, (Ex.refl w), rfl⟩
 ·rintro m19 L20 w21 ⟨k4, rfl, hk22, hsz24, hl25, hl26, hl27, hl28, hf29, hf30, hI23⟩
  refine CW.sub (Sub.cons hl25 (Sub.cons hl26 (Sub.cons hl27 (Sub.cons hl28 (Sub.nil _))))) ?_
  have hf30z := Ex.size hf30
  have hbg31 := RdS.big hf29
  rcases Nat.lt_or_ge k4 p_l.length with hlt32 | hlt32
  ·refine CW.seq (CW.region (sd rfl (yl_lss rfl rfl rfl (SeqR.done (tn (CW.seq (CW.cond_t rfl (lt_t hlt32) (CW.skip (tn ?_)))))))))
   refine CW.seq (CW.block (CW.seq (CW.region ?_)))
   obtain ⟨eb33, eo33, ec33, eA33, eS33, ebl33, el33, eR33, eC33⟩ := RdS.atD hf29 d_Write (i := k4) (by first | omega | assumption)
   obtain rfl := eR33
   have eC33 : Cells w21 eb33 (eo33 + k4 * 3) [.string (bs ((p_l.getD k4 d_Write).Key)), .string (bs ((p_l.getD k4 d_Write).Val)), .bool ((p_l.getD k4 d_Write).Gone)] := eC33
   refine sd rfl (yl_indexAddrN Tryz.un38 Tryz.ty112 rfl rfl rfl eA33 (by first | omega | assumption | (simp only [IntKind.wrap_i64] at *; omega)) (sd rfl (yl_loadN (cs := [.string (bs ((p_l.getD k4 d_Write).Key)), .string (bs ((p_l.getD k4 d_Write).Val)), .bool ((p_l.getD k4 d_Write).Gone)]) Tryz.ty112 rfl rfl eC33 rfl (sd rfl (yl_alloc Tryz.ty112 (cs := [.string (bs (([] : Str))), .string (bs (([] : Str))), .bool (false)]) rfl rfl ?_)))))
   intro b34 w35 hs36 hz37 hB38 hE39
   refine SeqR.u rfl rfl (yl_store (vs := [.string (bs ((p_l.getD k4 d_Write).Key)), .string (bs ((p_l.getD k4 d_Write).Val)), .bool ((p_l.getD k4 d_Write).Gone)]) Tryz.ty112 rfl rfl rfl rfl rfl rfl hB38 (Nat.le_of_ble_eq_true rfl) ?_)
   intro w40 hB41 hO42
   have hB41 : Box w40 b34 112 [.string (bs ((p_l.getD k4 d_Write).Key)), .string (bs ((p_l.getD k4 d_Write).Val)), .bool ((p_l.getD k4 d_Write).Gone)] := hB41
   have hO42z := hO42.size
   refine SeqR.done (tn (CW.seq (CW.region (sd rfl (yl_fieldAddr Tryz.fd112_2 rfl rfl (sd rfl (yl_load1 Tryz.ty4 rfl rfl ((hB41.cell 2).trans rfl) (SeqR.done (tn (bcase ((p_l.getD k4 d_Write).Gone) (fun hb43 => ?_) (fun hb43 => ?_)))))))))))
   ·refine CW.cond_t rfl hb43 (CW.seq (CW.region (sd rfl (yl_assign rfl rfl (SeqR.done (tn (CW.ret (br (tr ?_)))))))))
    refine tr ?_
    have hB45 : B_s_l5Rows_0 p_l k4 () = .ret false := by simp only [B_s_l5Rows_0, hb43, cond_true, cond_false, loopE_done, loopE_ret]
    have hL44 : loopM (B_s_l5Rows_0 p_l) (p_l.length - 0) 0 () = .ret false := hI23.symm.trans (loopM.ret hlt32 hB45)
    refine br (tr (rr rfl (.cons rfl .nil) ?_))
    have hM46 : (s_l5Rows p_l) = (false) := by simp only [s_l5Rows, hb43, hL44, cond_true, cond_false, loopE_done, loopE_ret]
    rw [hM46]
    exact ⟨rfl, (Below.only (Ex.trans hf30 hE39) hO42 (by omega))⟩
   ·refine CW.cond_f rfl hb43 (CW.skip (bn (tn (CW.region (sd rfl (yl_inc rfl rfl rfl (by omega) (sd rfl (yl_move rfl rfl (SeqR.done (tn ?_))))))))))
    have hB49 : B_s_l5Rows_0 p_l k4 () = .cont () := by simp only [B_s_l5Rows_0, hb43, cond_true, cond_false, loopE_done, loopE_ret]
    exact ⟨p_l.length - (k4 + 1), by omega, k4 + 1, rfl, hlt32, (by omega), rfl, rfl, rfl, rfl, (RdS.only good_Write (RdS.ex good_Write hf29 hE39) hO42 (by simp only [Iv]; omega)), (Below.only (Ex.trans hf30 hE39) hO42 (by omega)), (loopM.cont hlt32 hB49).symm.trans hI23⟩
  ·refine CW.seq (CW.region (sd rfl (yl_lss rfl rfl rfl (SeqR.done (tn (CW.seq (CW.cond_f rfl (lt_f hlt32) (CW.exit (tx ?_)))))))))
   refine tx ?_
   have hL54 : loopM (B_s_l5Rows_0 p_l) (p_l.length - 0) 0 () = .done () := hI23.symm.trans (loopM.stop hlt32)
   refine bx (tn (CW.seq (CW.region (sd rfl (yl_move rfl rfl (sd rfl (yl_call Tryz.en93 rfl (opvs_cons rfl opvs_nil) (Cal.mono (c_s_l3Writes p_l (RdS.up hf29 good_Write) o2) ?_))))))))
   rintro v56 w55 ⟨rfl, hE57⟩
   have hE57z := Ex.size hE57
   refine sd rfl (yl_assign rfl rfl (SeqR.done (tn (CW.ret (rr rfl (.cons rfl .nil) ?_)))))
   have hM58 : (s_l5Rows p_l) = ((s_l3Writes p_l)) := by simp only [s_l5Rows, hL54, cond_true, cond_false, loopE_done, loopE_ret]
   rw [hM58]
   exact ⟨rfl, (Ex.trans hf30 hE57)⟩
set_option maxRecDepth 100000 in
set_option maxHeartbeats 2000000 in
theorem c_s_GoodShift {A1 : Option Addr} {c1 : Nat} {A2 : Option Addr} {c2 : Nat} {A3 : Option Addr} {c3 : Nat} {w : World} (p_c : DShift) (h1 : RdS w (Iv 0 w.heap.size) R_Table 3 A1 p_c.Ways.length c1 p_c.Ways) (h2 : RdS w (Iv 0 w.heap.size) (RF e_Int) 1 A2 p_c.At.length c2 p_c.At) (h3 : RdS w (Iv 0 w.heap.size) (RF e_Write) 3 A3 p_c.Store.length c3 p_c.Store) (o4 : ok_Shift p_c) : Cal Tryz.prog 28 #[.agg #[.string (bs (p_c.Name)), .slice A1 p_c.Ways.length c1, .slice A2 p_c.At.length c2, .slice A3 p_c.Store.length c3]] w fun v w' => v = .bool ((s_GoodShift p_c)) ∧ Ex w w' := by
 have hol5 : p_c.Name.length ≤ 1073741824 := o4.1
 have hol6 := o4.2.1.1
 have hol7 := o4.2.2.1.1
 have hol8 := o4.2.2.2.1
 refine Cal.of (vs := [.agg #[.string (bs (p_c.Name)), .slice A1 p_c.Ways.length c1, .slice A2 p_c.At.length c2, .slice A3 p_c.Store.length c3]]) Tryz.func28 rfl Tryz.ntmps28 rfl (CW.seq (CW.region (sd rfl (yl_box (cs := [.string (bs (p_c.Name)), .slice A1 p_c.Ways.length c1, .slice A2 p_c.At.length c2, .slice A3 p_c.Store.length c3]) rfl rfl rfl ?_))))
 intro b9 w10 hs11 hz12 hB13 hE14
 refine sd rfl (yl_assign rfl rfl (SeqR.done (tn (CW.seq (CW.region (sd rfl (yl_loadN (cs := [.string (bs (p_c.Name)), .slice A1 p_c.Ways.length c1, .slice A2 p_c.At.length c2, .slice A3 p_c.Store.length c3]) Tryz.ty40 rfl rfl (hB13.cells (n := 4) rfl) rfl ?_)))))))
 have q16 := RdS.ex good_Int h2 hE14
 have q17 := RdS.ex good_Write h3 hE14
 refine sd rfl (yl_call Tryz.en54 rfl (opvs_cons rfl opvs_nil) (Cal.mono (c_s_l27Ways p_c (RdS.up (RdS.ex good_Table h1 hE14) good_Table) (RdS.up q16 good_Int) (RdS.up q17 good_Write) o4) ?_))
 rintro v19 w18 ⟨rfl, hE20⟩
 have hE20z := Ex.size hE20
 refine sd rfl (yl_move rfl rfl (bcase (s_l27Ways p_c) (fun hb21 => ?_) (fun hb21 => ?_)))
 ·refine sy rfl rfl hb21 (yl_fieldAddr Tryz.fd40_2 rfl rfl ?_)
  have q22 := Box.ex hB13 hE20
  refine sy rfl rfl hb21 (yl_load1 Tryz.ty23 rfl rfl ((q22.cell 2).trans rfl) (sy rfl rfl hb21 (yl_len Tryz.un23 rfl rfl (sy rfl rfl hb21 (yl_call Tryz.en55 rfl (opvs_cons rfl (opvs_cons rfl (opvs_cons rfl opvs_nil))) (Cal.mono (c_s_l1In (p_c.At.length : Int) 1 3) ?_))))))
  rintro v24 w23 ⟨rfl, hE25⟩
  have hE25z := Ex.size hE25
  refine sd rfl (yl_pick_t rfl rfl hb21 rfl (sd rfl (yl_move rfl rfl (bcase (s_l1In (p_c.At.length : Int) 1 3) (fun hb26 => ?_) (fun hb26 => ?_)))))
  ·have hb26p := f_l1In hb26
   refine sy rfl rfl hb26 (yl_fieldAddr Tryz.fd40_2 rfl rfl ?_)
   have q27 := Box.ex q22 hE25
   refine sy rfl rfl hb26 (yl_load1 Tryz.ty23 rfl rfl ((q27.cell 2).trans rfl) (sy rfl rfl hb26 (yl_fieldAddr Tryz.fd40_1 rfl rfl (sy rfl rfl hb26 (yl_load1 Tryz.ty37 rfl rfl ((q27.cell 1).trans rfl) (sy rfl rfl hb26 (yl_len Tryz.un37 rfl rfl (sy rfl rfl hb26 (yl_sub rfl rfl rfl (sy rfl rfl hb26 (yl_call Tryz.en56 rfl (opvs_cons rfl (opvs_cons rfl (opvs_cons rfl opvs_nil))) (Cal.mono (c_s_l1All p_c.At 0 (IntKind.wrap .i64 ((p_c.Ways.length : Int) - 1)) (RdS.up (RdS.ex good_Int (RdS.ex good_Int q16 hE20) hE25) good_Int) o4.2.2.1) ?_))))))))))))
   rintro v31 w30 ⟨rfl, hE32⟩
   have hE32z := Ex.size hE32
   refine sd rfl (yl_pick_t rfl rfl hb26 rfl (sd rfl (yl_move rfl rfl (bcase (s_l1All p_c.At 0 (IntKind.wrap .i64 ((p_c.Ways.length : Int) - 1))) (fun hb33 => ?_) (fun hb33 => ?_)))))
   ·refine sy rfl rfl hb33 (yl_fieldAddr Tryz.fd40_3 rfl rfl (sy rfl rfl hb33 (yl_load1 Tryz.ty38 rfl rfl (((Box.ex q27 hE32).cell 3).trans rfl) (sy rfl rfl hb33 (yl_call Tryz.en57 rfl (opvs_cons rfl opvs_nil) (Cal.mono (c_s_l5Rows p_c.Store (RdS.up (RdS.ex good_Write (RdS.ex good_Write (RdS.ex good_Write q17 hE20) hE25) hE32) good_Write) o4.2.2.2) ?_))))))
    rintro v39 w38 ⟨rfl, hE40⟩
    have hE40z := Ex.size hE40
    refine sd rfl (yl_pick_t rfl rfl hb33 rfl (sd rfl (yl_assign rfl rfl (SeqR.done (tn (CW.ret (rr rfl (.cons rfl .nil) ?_)))))))
    have hM41 : (s_GoodShift p_c) = ((s_l5Rows p_c.Store)) := by simp only [s_GoodShift, hb21, hb26, hb33, cond_true, cond_false, loopE_done, loopE_ret]
    rw [hM41]
    exact ⟨rfl, (Ex.trans (Ex.trans (Ex.trans (Ex.trans (Ex.trans (Ex.refl w) hE14) hE20) hE25) hE32) hE40)⟩
   ·refine sz rfl rfl hb33 (sz rfl rfl hb33 (sz rfl rfl hb33 (sd rfl (yl_pick_f rfl rfl hb33 rfl (sd rfl (yl_assign rfl rfl (SeqR.done (tn (CW.ret (rr rfl (.cons rfl .nil) ?_))))))))))
    have hM47 : (s_GoodShift p_c) = (false) := by simp only [s_GoodShift, hb21, hb26, hb33, cond_true, cond_false, loopE_done, loopE_ret]
    rw [hM47]
    exact ⟨rfl, (Ex.trans (Ex.trans (Ex.trans (Ex.trans (Ex.refl w) hE14) hE20) hE25) hE32)⟩
  ·refine sz rfl rfl hb26 (sz rfl rfl hb26 (sz rfl rfl hb26 (sz rfl rfl hb26 (sz rfl rfl hb26 (sz rfl rfl hb26 (sz rfl rfl hb26 (sd rfl (yl_pick_f rfl rfl hb26 rfl (sd rfl (yl_move rfl rfl ?_))))))))))
   refine sz rfl rfl rfl (sz rfl rfl rfl (sz rfl rfl rfl (sd rfl (yl_pick_f rfl rfl rfl rfl (sd rfl (yl_assign rfl rfl (SeqR.done (tn (CW.ret (rr rfl (.cons rfl .nil) ?_))))))))))
   have hM52 : (s_GoodShift p_c) = (false) := by simp only [s_GoodShift, hb21, hb26, cond_true, cond_false, loopE_done, loopE_ret]
   rw [hM52]
   exact ⟨rfl, (Ex.trans (Ex.trans (Ex.trans (Ex.refl w) hE14) hE20) hE25)⟩
 ·refine sz rfl rfl hb21 (sz rfl rfl hb21 (sz rfl rfl hb21 (sz rfl rfl hb21 (sd rfl (yl_pick_f rfl rfl hb21 rfl (sd rfl (yl_move rfl rfl (sz rfl rfl rfl (sz rfl rfl rfl (sz rfl rfl rfl ?_))))))))))
  refine sz rfl rfl rfl (sz rfl rfl rfl (sz rfl rfl rfl (sz rfl rfl rfl (sd rfl (yl_pick_f rfl rfl rfl rfl (sd rfl (yl_move rfl rfl (sz rfl rfl rfl (sz rfl rfl rfl (sz rfl rfl rfl ?_))))))))))
  refine sd rfl (yl_pick_f rfl rfl rfl rfl (sd rfl (yl_assign rfl rfl (SeqR.done (tn (CW.ret (rr rfl (.cons rfl .nil) ?_)))))))
  have hM56 : (s_GoodShift p_c) = (false) := by simp only [s_GoodShift, hb21, cond_true, cond_false, loopE_done, loopE_ret]
  rw [hM56]
  exact ⟨rfl, (Ex.trans (Ex.trans (Ex.refl w) hE14) hE20)⟩
set_option maxRecDepth 100000 in
set_option maxHeartbeats 2000000 in
theorem c_s_GoodFill {w : World} (p_f : DFill) (o1 : ok_Fill p_f) : Cal Tryz.prog 80 #[.agg #[.string (bs (p_f.Last)), .bool (p_f.Over)]] w fun v w' => v = .bool ((s_GoodFill p_f)) ∧ Ex w w' := by
 have hol2 : p_f.Last.length ≤ 1073741824 := o1
 refine Cal.of (vs := [.agg #[.string (bs (p_f.Last)), .bool (p_f.Over)]]) Tryz.func80 rfl Tryz.ntmps80 rfl (CW.seq (CW.region (sd rfl (yl_box (cs := [.string (bs (p_f.Last)), .bool (p_f.Over)]) rfl rfl rfl ?_))))
 intro b3 w4 hs5 hz6 hB7 hE8
 refine sd rfl (yl_assign rfl rfl (SeqR.done (tn (CW.seq (CW.region (sd rfl (yl_fieldAddr Tryz.fd60_0 rfl rfl (sd rfl (yl_load1 Tryz.ty9 rfl rfl ((hB7.cell 0).trans rfl) (sd rfl (yl_seql (a := p_f.Last) (b := ([] : Str)) rfl rfl rfl (sd rfl (yl_move rfl rfl ?_)))))))))))))
 refine bcase (p_f.Last == ([] : Str)) (fun hb9 => ?_) (fun hb9 => ?_)
 ·refine sz rfl rfl hb9 (sz rfl rfl hb9 (sz rfl rfl hb9 (sd rfl (yl_pick_t rfl rfl hb9 rfl (sd rfl (yl_assign rfl rfl (SeqR.done (tn (CW.ret (rr rfl (.cons rfl .nil) ?_))))))))))
  have hM10 : (s_GoodFill p_f) = (true) := by simp only [s_GoodFill, hb9, cond_true, cond_false, loopE_done, loopE_ret]
  rw [hM10]
  exact ⟨rfl, (Ex.trans (Ex.refl w) hE8)⟩
 ·refine sy rfl rfl hb9 (yl_fieldAddr Tryz.fd60_0 rfl rfl (sy rfl rfl hb9 (yl_load1 Tryz.ty9 rfl rfl ((hB7.cell 0).trans rfl) (sy rfl rfl hb9 (yl_call Tryz.en112 rfl (opvs_cons rfl opvs_nil) (Cal.mono (c_s_l3Key p_f.Last o1) ?_))))))
  rintro v13 w12 ⟨rfl, hE14⟩
  have hE14z := Ex.size hE14
  refine sd rfl (yl_pick_f rfl rfl hb9 rfl (sd rfl (yl_assign rfl rfl (SeqR.done (tn (CW.ret (rr rfl (.cons rfl .nil) ?_)))))))
  have hM15 : (s_GoodFill p_f) = ((s_l3Key p_f.Last)) := by simp only [s_GoodFill, hb9, cond_true, cond_false, loopE_done, loopE_ret]
  rw [hM15]
  exact ⟨rfl, (Ex.trans (Ex.trans (Ex.refl w) hE8) hE14)⟩
set_option maxRecDepth 100000 in
set_option maxHeartbeats 2000000 in
theorem c_s_GoodWork {A1 : Option Addr} {c1 : Nat} {A2 : Option Addr} {c2 : Nat} {A3 : Option Addr} {c3 : Nat} {w : World} (p_w : DWork) (h1 : RdS w (Iv 0 w.heap.size) R_Table 3 A1 p_w.Shift.Ways.length c1 p_w.Shift.Ways) (h2 : RdS w (Iv 0 w.heap.size) (RF e_Int) 1 A2 p_w.Shift.At.length c2 p_w.Shift.At) (h3 : RdS w (Iv 0 w.heap.size) (RF e_Write) 3 A3 p_w.Shift.Store.length c3 p_w.Shift.Store) (o4 : ok_Work p_w) : Cal Tryz.prog 41 #[.agg #[.string (bs (p_w.Shift.Name)), .slice A1 p_w.Shift.Ways.length c1, .slice A2 p_w.Shift.At.length c2, .slice A3 p_w.Shift.Store.length c3, .string (bs (p_w.Up.Last)), .bool (p_w.Up.Over), .string (bs (p_w.Down.Last)), .bool (p_w.Down.Over)]] w fun v w' => v = .bool ((s_GoodWork p_w)) ∧ Ex w w' := by
 have hol5 : p_w.Shift.Name.length ≤ 1073741824 := o4.1.1
 have hol6 := o4.1.2.1.1
 have hol7 := o4.1.2.2.1.1
 have hol8 := o4.1.2.2.2.1
 have hol9 : p_w.Up.Last.length ≤ 1073741824 := o4.2.1
 have hol10 : p_w.Down.Last.length ≤ 1073741824 := o4.2.2
 refine Cal.of (vs := [.agg #[.string (bs (p_w.Shift.Name)), .slice A1 p_w.Shift.Ways.length c1, .slice A2 p_w.Shift.At.length c2, .slice A3 p_w.Shift.Store.length c3, .string (bs (p_w.Up.Last)), .bool (p_w.Up.Over), .string (bs (p_w.Down.Last)), .bool (p_w.Down.Over)]]) Tryz.func41 rfl Tryz.ntmps41 rfl (CW.seq (CW.region (sd rfl (yl_box (cs := [.string (bs (p_w.Shift.Name)), .slice A1 p_w.Shift.Ways.length c1, .slice A2 p_w.Shift.At.length c2, .slice A3 p_w.Shift.Store.length c3, .string (bs (p_w.Up.Last)), .bool (p_w.Up.Over), .string (bs (p_w.Down.Last)), .bool (p_w.Down.Over)]) rfl rfl rfl ?_))))
 intro b11 w12 hs13 hz14 hB15 hE16
 refine sd rfl (yl_assign rfl rfl (SeqR.done (tn (CW.seq (CW.region (sd rfl (yl_fieldAddr Tryz.fd62_0 rfl rfl (sd rfl (yl_loadN (cs := [.string (bs (p_w.Shift.Name)), .slice A1 p_w.Shift.Ways.length c1, .slice A2 p_w.Shift.At.length c2, .slice A3 p_w.Shift.Store.length c3]) Tryz.ty40 rfl rfl (hB15.cells (n := 4) rfl) rfl (sd rfl (yl_call Tryz.en28 rfl (opvs_cons rfl opvs_nil) (Cal.mono (c_s_GoodShift p_w.Shift (RdS.up (RdS.ex good_Table h1 hE16) good_Table) (RdS.up (RdS.ex good_Int h2 hE16) good_Int) (RdS.up (RdS.ex good_Write h3 hE16) good_Write) o4.1) ?_))))))))))))
 rintro v21 w20 ⟨rfl, hE22⟩
 have hE22z := Ex.size hE22
 refine sd rfl (yl_move rfl rfl (bcase (s_GoodShift p_w.Shift) (fun hb23 => ?_) (fun hb23 => ?_)))
 ·obtain ⟨hb23p0, hb23p1⟩ := f_s_GoodShift hb23
  refine sy rfl rfl hb23 (yl_fieldAddr Tryz.fd62_1 rfl rfl ?_)
  have q24 := Box.ex hB15 hE22
  refine sy rfl rfl hb23 (yl_loadN (cs := [.string (bs (p_w.Up.Last)), .bool (p_w.Up.Over)]) Tryz.ty60 rfl rfl (q24.cells (n := 2) rfl) rfl (sy rfl rfl hb23 (yl_call Tryz.en80 rfl (opvs_cons rfl opvs_nil) (Cal.mono (c_s_GoodFill p_w.Up o4.2.1) ?_))))
  rintro v26 w25 ⟨rfl, hE27⟩
  have hE27z := Ex.size hE27
  refine sd rfl (yl_pick_t rfl rfl hb23 rfl (sd rfl (yl_move rfl rfl (bcase (s_GoodFill p_w.Up) (fun hb28 => ?_) (fun hb28 => ?_)))))
  ·refine sy rfl rfl hb28 (yl_fieldAddr Tryz.fd62_2 rfl rfl (sy rfl rfl hb28 (yl_loadN (cs := [.string (bs (p_w.Down.Last)), .bool (p_w.Down.Over)]) Tryz.ty60 rfl rfl ((Box.ex q24 hE27).cells (n := 2) rfl) rfl (sy rfl rfl hb28 (yl_call Tryz.en80 rfl (opvs_cons rfl opvs_nil) (Cal.mono (c_s_GoodFill p_w.Down o4.2.2) ?_))))))
   rintro v31 w30 ⟨rfl, hE32⟩
   have hE32z := Ex.size hE32
   refine sd rfl (yl_pick_t rfl rfl hb28 rfl (sd rfl (yl_assign rfl rfl (SeqR.done (tn (CW.ret (rr rfl (.cons rfl .nil) ?_)))))))
   have hM33 : (s_GoodWork p_w) = ((s_GoodFill p_w.Down)) := by simp only [s_GoodWork, hb23, hb28, cond_true, cond_false, loopE_done, loopE_ret]
   rw [hM33]
   exact ⟨rfl, (Ex.trans (Ex.trans (Ex.trans (Ex.trans (Ex.refl w) hE16) hE22) hE27) hE32)⟩
  ·refine sz rfl rfl hb28 (sz rfl rfl hb28 (sz rfl rfl hb28 (sd rfl (yl_pick_f rfl rfl hb28 rfl (sd rfl (yl_assign rfl rfl (SeqR.done (tn (CW.ret (rr rfl (.cons rfl .nil) ?_))))))))))
   have hM38 : (s_GoodWork p_w) = (false) := by simp only [s_GoodWork, hb23, hb28, cond_true, cond_false, loopE_done, loopE_ret]
   rw [hM38]
   exact ⟨rfl, (Ex.trans (Ex.trans (Ex.trans (Ex.refl w) hE16) hE22) hE27)⟩
 ·refine sz rfl rfl hb23 (sz rfl rfl hb23 (sz rfl rfl hb23 (sd rfl (yl_pick_f rfl rfl hb23 rfl (sd rfl (yl_move rfl rfl (sz rfl rfl rfl (sz rfl rfl rfl (sz rfl rfl rfl (sd rfl (yl_pick_f rfl rfl rfl rfl ?_)))))))))))
  refine sd rfl (yl_assign rfl rfl (SeqR.done (tn (CW.ret (rr rfl (.cons rfl .nil) ?_)))))
  have hM42 : (s_GoodWork p_w) = (false) := by simp only [s_GoodWork, hb23, cond_true, cond_false, loopE_done, loopE_ret]
  rw [hM42]
  exact ⟨rfl, (Ex.trans (Ex.trans (Ex.refl w) hE16) hE22)⟩
set_option maxRecDepth 100000 in
set_option maxHeartbeats 2000000 in
theorem c_s_l27Empty {A1 : Option Addr} {c1 : Nat} {A2 : Option Addr} {c2 : Nat} {w : World} (p_a : DRowAct) (h1 : RdS w (Iv 0 w.heap.size) (RF e_Str) 1 A1 p_a.Old.Vals.length c1 p_a.Old.Vals) (h2 : RdS w (Iv 0 w.heap.size) (RF e_Str) 1 A2 p_a.New.Vals.length c2 p_a.New.Vals) (o3 : ok_RowAct p_a) : Cal Tryz.prog 58 #[.agg #[.int .i64 (p_a.Kind), .slice A1 p_a.Old.Vals.length c1, .slice A2 p_a.New.Vals.length c2]] w fun v w' => v = .bool ((s_l27Empty p_a)) ∧ Ex w w' := by
 have hol4 := o3.1.1
 have hol5 := o3.2.1
 refine Cal.of (vs := [.agg #[.int .i64 (p_a.Kind), .slice A1 p_a.Old.Vals.length c1, .slice A2 p_a.New.Vals.length c2]]) Tryz.func58 rfl Tryz.ntmps58 rfl (CW.seq (CW.region (sd rfl (yl_box (cs := [.int .i64 (p_a.Kind), .slice A1 p_a.Old.Vals.length c1, .slice A2 p_a.New.Vals.length c2]) rfl rfl rfl ?_))))
 intro b6 w7 hs8 hz9 hB10 hE11
 refine sd rfl (yl_assign rfl rfl (SeqR.done (tn (CW.seq (CW.region (sd rfl (yl_fieldAddr Tryz.fd44_0 rfl rfl (sd rfl (yl_load1 Tryz.ty3 rfl rfl ((hB10.cell 0).trans rfl) (sd rfl (yl_eql rfl rfl rfl (sd rfl (yl_move rfl rfl ?_)))))))))))))
 refine bcase (decide (p_a.Kind = 0)) (fun hb12 => ?_) (fun hb12 => ?_)
 ·have hb12p := dec_t hb12
  refine sy rfl rfl hb12 (yl_fieldAddr Tryz.fd44_1 rfl rfl (sy rfl rfl hb12 (yl_fieldAddr Tryz.fd42_0 rfl rfl (sy rfl rfl hb12 (yl_load1 Tryz.ty27 rfl rfl ((hB10.cell 1).trans rfl) (sy rfl rfl hb12 (yl_len Tryz.un27 rfl rfl (sy rfl rfl hb12 (yl_eql rfl rfl rfl (sd rfl (yl_pick_t rfl rfl hb12 rfl (sd rfl (yl_move rfl rfl (bcase (decide ((p_a.Old.Vals.length : Int) = 0)) (fun hb13 => ?_) (fun hb13 => ?_)))))))))))))))
  ·have hb13p := dec_t hb13
   refine sy rfl rfl hb13 (yl_fieldAddr Tryz.fd44_2 rfl rfl (sy rfl rfl hb13 (yl_fieldAddr Tryz.fd42_0 rfl rfl (sy rfl rfl hb13 (yl_load1 Tryz.ty27 rfl rfl ((hB10.cell 2).trans rfl) (sy rfl rfl hb13 (yl_len Tryz.un27 rfl rfl (sy rfl rfl hb13 (yl_eql rfl rfl rfl (sd rfl (yl_pick_t rfl rfl hb13 rfl (sd rfl (yl_assign rfl rfl (SeqR.done (tn ?_)))))))))))))))
   refine CW.ret (rr rfl (.cons rfl .nil) ?_)
   have hM14 : (s_l27Empty p_a) = (decide ((p_a.New.Vals.length : Int) = 0)) := by simp only [s_l27Empty, hb12, hb13, cond_true, cond_false, loopE_done, loopE_ret]
   rw [hM14]
   exact ⟨rfl, (Ex.trans (Ex.refl w) hE11)⟩
  ·have hb13p := dec_f hb13
   refine sz rfl rfl hb13 (sz rfl rfl hb13 (sz rfl rfl hb13 (sz rfl rfl hb13 (sz rfl rfl hb13 (sd rfl (yl_pick_f rfl rfl hb13 rfl (sd rfl (yl_assign rfl rfl (SeqR.done (tn ?_))))))))))
   refine CW.ret (rr rfl (.cons rfl .nil) ?_)
   have hM16 : (s_l27Empty p_a) = (false) := by simp only [s_l27Empty, hb12, hb13, cond_true, cond_false, loopE_done, loopE_ret]
   rw [hM16]
   exact ⟨rfl, (Ex.trans (Ex.refl w) hE11)⟩
 ·have hb12p := dec_f hb12
  refine sz rfl rfl hb12 (sz rfl rfl hb12 (sz rfl rfl hb12 (sz rfl rfl hb12 (sz rfl rfl hb12 (sd rfl (yl_pick_f rfl rfl hb12 rfl (sd rfl (yl_move rfl rfl (sz rfl rfl rfl (sz rfl rfl rfl ?_))))))))))
  refine sz rfl rfl rfl (sz rfl rfl rfl (sz rfl rfl rfl (sd rfl (yl_pick_f rfl rfl rfl rfl (sd rfl (yl_assign rfl rfl (SeqR.done (tn (CW.ret (rr rfl (.cons rfl .nil) ?_))))))))))
  have hM18 : (s_l27Empty p_a) = (false) := by simp only [s_l27Empty, hb12, cond_true, cond_false, loopE_done, loopE_ret]
  rw [hM18]
  exact ⟨rfl, (Ex.trans (Ex.refl w) hE11)⟩
set_option maxRecDepth 100000 in
set_option maxHeartbeats 2000000 in
theorem c_s_l25Field {w : World} (p_s : Str) (o1 : okS p_s) : Cal Tryz.prog 126 #[.string (bs (p_s))] w fun v w' => v = .bool ((s_l25Field p_s)) ∧ Ex w w' := by
 have hol2 : p_s.length ≤ 1073741824 := o1
 refine Cal.of (vs := [.string (bs (p_s))]) Tryz.func126 rfl Tryz.ntmps126 rfl (CW.seq (CW.region (sd rfl (yl_assign rfl rfl (SeqR.done (tn (CW.seq (CW.region (sd rfl (yl_move rfl rfl ?_))))))))))
 refine sd rfl (yl_slen Tryz.un9 (a := p_s) rfl rfl (sd rfl (yl_call Tryz.en55 rfl (opvs_cons rfl (opvs_cons rfl (opvs_cons rfl opvs_nil))) (Cal.mono (c_s_l1In (p_s.length : Int) 1 3) ?_))))
 rintro v4 w3 ⟨rfl, hE5⟩
 have hE5z := Ex.size hE5
 refine sd rfl (yl_move rfl rfl (bcase (s_l1In (p_s.length : Int) 1 3) (fun hb6 => ?_) (fun hb6 => ?_)))
 ·have hb6p := f_l1In hb6
  refine sy rfl rfl hb6 (yl_move rfl rfl (sy rfl rfl hb6 (yl_call Tryz.en142 rfl (opvs_cons rfl (opvs_cons rfl opvs_nil)) (Cal.mono (c_s_l3Bytes p_s ([] : Str) o1 (okS.lit rfl)) ?_))))
  rintro v8 w7 ⟨rfl, hE9⟩
  have hE9z := Ex.size hE9
  refine sd rfl (yl_pick_t rfl rfl hb6 rfl (sd rfl (yl_assign rfl rfl (SeqR.done (tn (CW.ret (rr rfl (.cons rfl .nil) ?_)))))))
  have hM10 : (s_l25Field p_s) = ((s_l3Bytes p_s ([] : Str))) := by simp only [s_l25Field, hb6, cond_true, cond_false, loopE_done, loopE_ret]
  rw [hM10]
  exact ⟨rfl, (Ex.trans (Ex.trans (Ex.refl w) hE5) hE9)⟩
 ·refine sz rfl rfl hb6 (sz rfl rfl hb6 (sd rfl (yl_pick_f rfl rfl hb6 rfl (sd rfl (yl_assign rfl rfl (SeqR.done (tn (CW.ret (rr rfl (.cons rfl .nil) ?_)))))))))
  have hM13 : (s_l25Field p_s) = (false) := by simp only [s_l25Field, hb6, cond_true, cond_false, loopE_done, loopE_ret]
  rw [hM13]
  exact ⟨rfl, (Ex.trans (Ex.refl w) hE5)⟩
set_option maxRecDepth 100000 in
set_option maxHeartbeats 2000000 in
theorem c_s_l25Good {A1 : Option Addr} {c1 : Nat} {A2 : Option Addr} {c2 : Nat} {A4 : Option Addr} {c4 : Nat} {w : World} (p_t : DTable) (p_r : DRow) (h1 : RdS w (Iv 0 w.heap.size) (RF e_Str) 1 A1 p_t.Cols.length c1 p_t.Cols) (h2 : RdS w (Iv 0 w.heap.size) (RF e_Idx) 3 A2 p_t.Idxs.length c2 p_t.Idxs) (h4 : RdS w (Iv 0 w.heap.size) (RF e_Str) 1 A4 p_r.Vals.length c4 p_r.Vals) (o3 : ok_Table p_t) (o5 : ok_Row p_r) : Cal Tryz.prog 94 #[.agg #[.string (bs (p_t.Name)), .slice A1 p_t.Cols.length c1, .slice A2 p_t.Idxs.length c2], .agg #[.slice A4 p_r.Vals.length c4]] w fun v w' => v = .bool ((s_l25Good p_t p_r)) ∧ Ex w w' := by
 have hol6 : p_t.Name.length ≤ 1073741824 := o3.1
 have hol7 := o3.2.1.1
 have hol8 := o3.2.2.1
 have hol9 := o5.1
 refine Cal.of (vs := [.agg #[.string (bs (p_t.Name)), .slice A1 p_t.Cols.length c1, .slice A2 p_t.Idxs.length c2], .agg #[.slice A4 p_r.Vals.length c4]]) Tryz.func94 rfl Tryz.ntmps94 rfl (CW.seq (CW.region (sd rfl (yl_box (cs := [.string (bs (p_t.Name)), .slice A1 p_t.Cols.length c1, .slice A2 p_t.Idxs.length c2]) rfl rfl rfl ?_))))
 intro b10 w11 hs12 hz13 hB14 hE15
 refine sd rfl (yl_box (cs := [.slice A4 p_r.Vals.length c4]) rfl rfl rfl ?_)
 intro b16 w17 hs18 hz19 hB20 hE21
 refine sd rfl (yl_assign rfl rfl (SeqR.done (tn (CW.seq (CW.seq (CW.region (sd rfl (yl_fieldAddr Tryz.fd42_0 rfl rfl (sd rfl (yl_load1 Tryz.ty27 rfl rfl ((hB20.cell 0).trans rfl) (sd rfl (yl_len Tryz.un27 rfl rfl ?_))))))))))))
 refine sd rfl (yl_move rfl rfl (SeqR.done (tn (CW.block (CW.loop (fun m23 L24 w25 => ∃ (k22 : Nat), m23 = p_r.Vals.length - k22 ∧ k22 ≤ p_r.Vals.length ∧ w17.heap.size ≤ w25.heap.size ∧ lkp L24 2 = some (.pointer (some ⟨b10, 0, none⟩)) ∧ lkp L24 3 = some (.pointer (some ⟨b16, 0, none⟩)) ∧ lkp L24 8 = some (.slice A4 p_r.Vals.length c4) ∧ lkp L24 9 = some (.int .i64 ((p_r.Vals.length : Int))) ∧ lkp L24 10 = some (.int .i64 ((k22 : Int))) ∧ Box w25 b10 95 [.string (bs (p_t.Name)), .slice A1 p_t.Cols.length c1, .slice A2 p_t.Idxs.length c2] ∧ RdS w25 (Iv 0 w.heap.size) (RF e_Str) 1 A1 p_t.Cols.length c1 p_t.Cols ∧ RdS w25 (Iv 0 w.heap.size) (RF e_Idx) 3 A2 p_t.Idxs.length c2 p_t.Idxs ∧ Box w25 b16 42 [.slice A4 p_r.Vals.length c4] ∧ RdS w25 (Iv 0 w.heap.size) (RF e_Str) 1 A4 p_r.Vals.length c4 p_r.Vals ∧ Ex w w25 ∧ loopM (B_s_l25Good_0 p_t p_r) (p_r.Vals.length - k22) k22 () = loopM (B_s_l25Good_0 p_t p_r) (p_r.Vals.length - 0) 0 ()) (p_r.Vals.length - 0) ?_ ?_)))))
 ·exact ⟨0, rfl, (by omega), Nat.le_refl _, rfl, rfl, rfl, rfl, rfl, (Box.ex hB14 hE21), (RdS.ex good_Str (RdS.ex good_Str h1 hE15) hE21), (RdS.ex good_Idx (RdS.ex good_Idx h2 hE15) hE21), hB20, (RdS.ex good_Str (RdS.ex good_Str h4 hE15) hE21), (Ex.trans (Ex.trans (Ex.refl w) hE15) hE21), rfl⟩
 ·rintro m35 L36 w37 ⟨k22, rfl, hk38, hsz40, hl41, hl42, hl43, hl44, hl45, hf46, hf47, hf48, hf49, hf50, hf51, hI39⟩
  refine CW.sub (Sub.cons hl41 (Sub.cons hl42 (Sub.cons hl43 (Sub.cons hl44 (Sub.cons hl45 (Sub.nil _)))))) ?_
  have hf46z := Box.lt hf46
  have hf49z := Box.lt hf49
  have hf51z := Ex.size hf51
  have hbg52 := RdS.big hf50
  rcases Nat.lt_or_ge k22 p_r.Vals.length with hlt53 | hlt53
  ·refine CW.seq (CW.region (sd rfl (yl_lss rfl rfl rfl (SeqR.done (tn (CW.seq (CW.cond_t rfl (lt_t hlt53) (CW.skip (tn ?_)))))))))
   refine CW.seq (CW.block (CW.seq (CW.region ?_)))
   obtain ⟨eb54, eo54, ec54, eA54, eS54, ebl54, el54, eR54, eC54⟩ := RdS.atD hf50 d_Str (i := k22) (by first | omega | assumption)
   obtain rfl := eR54
   have eC54 : Cells w37 eb54 (eo54 + k22 * 1) [.string (bs ((p_r.Vals.getD k22 d_Str)))] := eC54
   refine sd rfl (yl_indexAddrN Tryz.un27 Tryz.ty9 rfl rfl rfl eA54 (by first | omega | assumption | (simp only [IntKind.wrap_i64] at *; omega)) (sd rfl (yl_load1 Tryz.ty9 rfl rfl (eC54 0 _ rfl) (sd rfl (yl_assign rfl rfl (SeqR.done (tn (CW.seq (CW.region (sd rfl (yl_move rfl rfl (sd rfl (yl_call Tryz.en126 rfl (opvs_cons rfl opvs_nil) (Cal.mono (c_s_l25Field (p_r.Vals.getD k22 d_Str) (okL.getD o5 ok_d_Str _)) ?_))))))))))))))
   rintro v56 w55 ⟨rfl, hE57⟩
   have hE57z := Ex.size hE57
   refine sd rfl (yl_not rfl rfl (SeqR.done (tn (bcase (s_l25Field (p_r.Vals.getD k22 d_Str)) (fun hb58 => ?_) (fun hb58 => ?_)))))
   ·refine CW.cond_f rfl (not_t hb58) (CW.skip (bn (tn (CW.region (sd rfl (yl_inc rfl rfl rfl (by omega) (sd rfl (yl_move rfl rfl (SeqR.done (tn ?_))))))))))
    have hB59 : B_s_l25Good_0 p_t p_r k22 () = .cont () := by simp only [B_s_l25Good_0, hb58, cond_true, cond_false, loopE_done, loopE_ret]
    exact ⟨p_r.Vals.length - (k22 + 1), by omega, k22 + 1, rfl, hlt53, (by omega), rfl, rfl, rfl, rfl, rfl, (Box.ex hf46 hE57), (RdS.ex good_Str hf47 hE57), (RdS.ex good_Idx hf48 hE57), (Box.ex hf49 hE57), (RdS.ex good_Str hf50 hE57), (Ex.trans hf51 hE57), (loopM.cont hlt53 hB59).symm.trans hI39⟩
   ·refine CW.cond_t rfl (not_f hb58) (CW.seq (CW.region (sd rfl (yl_assign rfl rfl (SeqR.done (tn (CW.ret (br (tr ?_)))))))))
    refine tr ?_
    have hB67 : B_s_l25Good_0 p_t p_r k22 () = .ret false := by simp only [B_s_l25Good_0, hb58, cond_true, cond_false, loopE_done, loopE_ret]
    have hL66 : loopM (B_s_l25Good_0 p_t p_r) (p_r.Vals.length - 0) 0 () = .ret false := hI39.symm.trans (loopM.ret hlt53 hB67)
    refine br (tr (rr rfl (.cons rfl .nil) ?_))
    have hM68 : (s_l25Good p_t p_r) = (false) := by simp only [s_l25Good, hb58, hL66, cond_true, cond_false, loopE_done, loopE_ret]
    rw [hM68]
    exact ⟨rfl, (Ex.trans hf51 hE57)⟩
  ·refine CW.seq (CW.region (sd rfl (yl_lss rfl rfl rfl (SeqR.done (tn (CW.seq (CW.cond_f rfl (lt_f hlt53) (CW.exit (tx ?_)))))))))
   refine tx ?_
   have hL70 : loopM (B_s_l25Good_0 p_t p_r) (p_r.Vals.length - 0) 0 () = .done () := hI39.symm.trans (loopM.stop hlt53)
   refine bx (tn (CW.seq (CW.region (sd rfl (yl_fieldAddr Tryz.fd42_0 rfl rfl (sd rfl (yl_load1 Tryz.ty27 rfl rfl ((hf49.cell 0).trans rfl) (sd rfl (yl_len Tryz.un27 rfl rfl (sd rfl (yl_fieldAddr Tryz.fd95_1 rfl rfl (sd rfl (yl_load1 Tryz.ty27 rfl rfl ((hf46.cell 1).trans rfl) ?_)))))))))))))
   refine sd rfl (yl_len Tryz.un27 rfl rfl (sd rfl (yl_eql rfl rfl rfl (sd rfl (yl_assign rfl rfl (SeqR.done (tn (CW.ret (rr rfl (.cons rfl .nil) ?_)))))))))
   have hM71 : (s_l25Good p_t p_r) = (decide ((p_r.Vals.length : Int) = (p_t.Cols.length : Int))) := by simp only [s_l25Good, hL70, cond_true, cond_false, loopE_done, loopE_ret]
   rw [hM71]
   exact ⟨rfl, hf51⟩
set_option maxRecDepth 100000 in
set_option maxHeartbeats 2000000 in
theorem c_s_l26Good {A1 : Option Addr} {c1 : Nat} {A2 : Option Addr} {c2 : Nat} {A4 : Option Addr} {c4 : Nat} {A5 : Option Addr} {c5 : Nat} {w : World} (p_t : DTable) (p_a : DRowAct) (h1 : RdS w (Iv 0 w.heap.size) (RF e_Str) 1 A1 p_t.Cols.length c1 p_t.Cols) (h2 : RdS w (Iv 0 w.heap.size) (RF e_Idx) 3 A2 p_t.Idxs.length c2 p_t.Idxs) (h4 : RdS w (Iv 0 w.heap.size) (RF e_Str) 1 A4 p_a.Old.Vals.length c4 p_a.Old.Vals) (h5 : RdS w (Iv 0 w.heap.size) (RF e_Str) 1 A5 p_a.New.Vals.length c5 p_a.New.Vals) (o3 : ok_Table p_t) (o6 : ok_RowAct p_a) (pre0 : 0 < p_t.Cols.length) : Cal Tryz.prog 59 #[.agg #[.string (bs (p_t.Name)), .slice A1 p_t.Cols.length c1, .slice A2 p_t.Idxs.length c2], .agg #[.int .i64 (p_a.Kind), .slice A4 p_a.Old.Vals.length c4, .slice A5 p_a.New.Vals.length c5]] w fun v w' => v = .bool ((s_l26Good p_t p_a)) ∧ Ex w w' := by
 have hol7 : p_t.Name.length ≤ 1073741824 := o3.1
 have hol8 := o3.2.1.1
 have hol9 := o3.2.2.1
 have hol10 := o6.1.1
 have hol11 := o6.2.1
 refine Cal.of (vs := [.agg #[.string (bs (p_t.Name)), .slice A1 p_t.Cols.length c1, .slice A2 p_t.Idxs.length c2], .agg #[.int .i64 (p_a.Kind), .slice A4 p_a.Old.Vals.length c4, .slice A5 p_a.New.Vals.length c5]]) Tryz.func59 rfl Tryz.ntmps59 rfl (CW.seq (CW.region (sd rfl (yl_box (cs := [.string (bs (p_t.Name)), .slice A1 p_t.Cols.length c1, .slice A2 p_t.Idxs.length c2]) rfl rfl rfl ?_))))
 intro b12 w13 hs14 hz15 hB16 hE17
 refine sd rfl (yl_box (cs := [.int .i64 (p_a.Kind), .slice A4 p_a.Old.Vals.length c4, .slice A5 p_a.New.Vals.length c5]) rfl rfl rfl ?_)
 intro b18 w19 hs20 hz21 hB22 hE23
 refine sd rfl (yl_assign rfl rfl (SeqR.done (tn (CW.seq (CW.seq (CW.region (sd rfl (yl_fieldAddr Tryz.fd44_0 rfl rfl (sd rfl (yl_load1 Tryz.ty3 rfl rfl ((hB22.cell 0).trans rfl) (SeqR.done ?_)))))))))))
 refine tn (CW.block (CW.seq (CW.region (sd rfl (yl_eql rfl rfl rfl (sd rfl (yl_assign rfl rfl (SeqR.done (tn (bcase (decide (p_a.Kind = 1)) (fun hb24 => ?_) (fun hb24 => ?_)))))))))))
 ·have hb24p := dec_t hb24
  refine CW.cond_t rfl hb24 (CW.seq (CW.region (sd rfl (yl_fieldAddr Tryz.fd44_1 rfl rfl (sd rfl (yl_fieldAddr Tryz.fd42_0 rfl rfl (sd rfl (yl_load1 Tryz.ty27 rfl rfl ((hB22.cell 1).trans rfl) (sd rfl (yl_len Tryz.un27 rfl rfl (sd rfl (yl_eql rfl rfl rfl (sd rfl (yl_move rfl rfl ?_))))))))))))))
  refine bcase (decide ((p_a.Old.Vals.length : Int) = 0)) (fun hb25 => ?_) (fun hb25 => ?_)
  ·have hb25p := dec_t hb25
   refine sy rfl rfl hb25 (yl_loadN (cs := [.string (bs (p_t.Name)), .slice A1 p_t.Cols.length c1, .slice A2 p_t.Idxs.length c2]) Tryz.ty95 rfl rfl ((Box.ex hB16 hE23).cells (n := 3) rfl) rfl (sy rfl rfl hb25 (yl_fieldAddr Tryz.fd44_2 rfl rfl (sy rfl rfl hb25 (yl_loadN (cs := [.slice A5 p_a.New.Vals.length c5]) Tryz.ty42 rfl rfl (hB22.cells (n := 1) rfl) rfl (sy rfl rfl hb25 (yl_call Tryz.en94 rfl (opvs_cons rfl (opvs_cons rfl opvs_nil)) (Cal.mono (c_s_l25Good p_t p_a.New (RdS.up (RdS.ex good_Str (RdS.ex good_Str h1 hE17) hE23) good_Str) (RdS.up (RdS.ex good_Idx (RdS.ex good_Idx h2 hE17) hE23) good_Idx) (RdS.up (RdS.ex good_Str (RdS.ex good_Str h5 hE17) hE23) good_Str) o3 o6.2) ?_))))))))
   rintro v34 w33 ⟨rfl, hE35⟩
   have hE35z := Ex.size hE35
   refine sd rfl (yl_pick_t rfl rfl hb25 rfl (sd rfl (yl_assign rfl rfl (SeqR.done (tn (CW.ret (br (tr (rr rfl (.cons rfl .nil) ?_)))))))))
   have hM36 : (s_l26Good p_t p_a) = ((s_l25Good p_t p_a.New)) := by simp only [s_l26Good, hb24, hb25, cond_true, cond_false, loopE_done, loopE_ret]
   rw [hM36]
   exact ⟨rfl, (Ex.trans (Ex.trans (Ex.trans (Ex.refl w) hE17) hE23) hE35)⟩
  ·have hb25p := dec_f hb25
   refine sz rfl rfl hb25 (sz rfl rfl hb25 (sz rfl rfl hb25 (sz rfl rfl hb25 (sd rfl (yl_pick_f rfl rfl hb25 rfl (sd rfl (yl_assign rfl rfl (SeqR.done (tn (CW.ret ?_))))))))))
   refine br (tr (rr rfl (.cons rfl .nil) ?_))
   have hM40 : (s_l26Good p_t p_a) = (false) := by simp only [s_l26Good, hb24, hb25, cond_true, cond_false, loopE_done, loopE_ret]
   rw [hM40]
   exact ⟨rfl, (Ex.trans (Ex.trans (Ex.refl w) hE17) hE23)⟩
 ·have hb24p := dec_f hb24
  refine CW.cond_f rfl hb24 (CW.seq (CW.region (sd rfl (yl_eql rfl rfl rfl (sd rfl (yl_assign rfl rfl (SeqR.done (tn (bcase (decide (p_a.Kind = 2)) (fun hb43 => ?_) (fun hb43 => ?_))))))))))
  ·have hb43p := dec_t hb43
   refine CW.cond_t rfl hb43 (CW.seq (CW.region (sd rfl (yl_fieldAddr Tryz.fd44_2 rfl rfl (sd rfl (yl_fieldAddr Tryz.fd42_0 rfl rfl (sd rfl (yl_load1 Tryz.ty27 rfl rfl ((hB22.cell 2).trans rfl) (sd rfl (yl_len Tryz.un27 rfl rfl (sd rfl (yl_eql rfl rfl rfl (sd rfl (yl_move rfl rfl ?_))))))))))))))
   refine bcase (decide ((p_a.New.Vals.length : Int) = 0)) (fun hb44 => ?_) (fun hb44 => ?_)
   ·have hb44p := dec_t hb44
    refine sy rfl rfl hb44 (yl_loadN (cs := [.string (bs (p_t.Name)), .slice A1 p_t.Cols.length c1, .slice A2 p_t.Idxs.length c2]) Tryz.ty95 rfl rfl ((Box.ex hB16 hE23).cells (n := 3) rfl) rfl (sy rfl rfl hb44 (yl_fieldAddr Tryz.fd44_1 rfl rfl (sy rfl rfl hb44 (yl_loadN (cs := [.slice A4 p_a.Old.Vals.length c4]) Tryz.ty42 rfl rfl (hB22.cells (n := 1) rfl) rfl (sy rfl rfl hb44 (yl_call Tryz.en94 rfl (opvs_cons rfl (opvs_cons rfl opvs_nil)) (Cal.mono (c_s_l25Good p_t p_a.Old (RdS.up (RdS.ex good_Str (RdS.ex good_Str h1 hE17) hE23) good_Str) (RdS.up (RdS.ex good_Idx (RdS.ex good_Idx h2 hE17) hE23) good_Idx) (RdS.up (RdS.ex good_Str (RdS.ex good_Str h4 hE17) hE23) good_Str) o3 o6.1) ?_))))))))
    rintro v53 w52 ⟨rfl, hE54⟩
    have hE54z := Ex.size hE54
    refine sd rfl (yl_pick_t rfl rfl hb44 rfl (sd rfl (yl_assign rfl rfl (SeqR.done (tn (CW.ret (br (tr (rr rfl (.cons rfl .nil) ?_)))))))))
    have hM55 : (s_l26Good p_t p_a) = ((s_l25Good p_t p_a.Old)) := by simp only [s_l26Good, hb24, hb43, hb44, cond_true, cond_false, loopE_done, loopE_ret]
    rw [hM55]
    exact ⟨rfl, (Ex.trans (Ex.trans (Ex.trans (Ex.refl w) hE17) hE23) hE54)⟩
   ·have hb44p := dec_f hb44
    refine sz rfl rfl hb44 (sz rfl rfl hb44 (sz rfl rfl hb44 (sz rfl rfl hb44 (sd rfl (yl_pick_f rfl rfl hb44 rfl (sd rfl (yl_assign rfl rfl (SeqR.done (tn (CW.ret ?_))))))))))
    refine br (tr (rr rfl (.cons rfl .nil) ?_))
    have hM59 : (s_l26Good p_t p_a) = (false) := by simp only [s_l26Good, hb24, hb43, hb44, cond_true, cond_false, loopE_done, loopE_ret]
    rw [hM59]
    exact ⟨rfl, (Ex.trans (Ex.trans (Ex.refl w) hE17) hE23)⟩
  ·have hb43p := dec_f hb43
   refine CW.cond_f rfl hb43 (CW.seq (CW.region (sd rfl (yl_eql rfl rfl rfl (sd rfl (yl_assign rfl rfl (SeqR.done (tn (bcase (decide (p_a.Kind = 3)) (fun hb62 => ?_) (fun hb62 => ?_))))))))))
   ·have hb62p := dec_t hb62
    refine CW.cond_t rfl hb62 (CW.seq (bcase (s_l25Good p_t p_a.Old) (fun hb71 => ?_) (fun hb71 => ?_)))
    ·obtain ⟨hb71p0, hb71p1⟩ := f_s_l25Good hb71
     refine bcase (s_l25Good p_t p_a.New) (fun hb83 => ?_) (fun hb83 => ?_)
     ·obtain ⟨hb83p0, hb83p1⟩ := f_s_l25Good hb83
      have q84 := Box.ex hB16 hE23
      have q86 := RdS.ex good_Str (RdS.ex good_Str h1 hE17) hE23
      have q88 := RdS.ex good_Idx (RdS.ex good_Idx h2 hE17) hE23
      have q90 := RdS.ex good_Str (RdS.ex good_Str h4 hE17) hE23
      have q93 := RdS.ex good_Str (RdS.ex good_Str h5 hE17) hE23
      obtain ⟨eb95, eo95, ec95, eA95, eS95, ebl95, el95, eR95, eC95⟩ := RdS.atD q90 d_Str (i := 0) (by first | omega | assumption)
      obtain rfl := eR95
      have eC95 : Cells w19 eb95 (eo95 + 0 * 1) [.string (bs ((p_a.Old.Vals.getD 0 d_Str)))] := eC95
      obtain ⟨eb96, eo96, ec96, eA96, eS96, ebl96, el96, eR96, eC96⟩ := RdS.atD q93 d_Str (i := 0) (by first | omega | assumption)
      obtain rfl := eR96
      have eC96 : Cells w19 eb96 (eo96 + 0 * 1) [.string (bs ((p_a.New.Vals.getD 0 d_Str)))] := eC96
      refine CW.drawsI 24 (vgetI [DetI (.agg #[.string (bs (p_t.Name)), .slice A1 p_t.Cols.length c1, .slice A2 p_t.Idxs.length c2]), DetI (.pointer (some ⟨b18, 0 + 1, none⟩)), DetI (.agg #[.slice A4 p_a.Old.Vals.length c4]), DetI (.bool ((s_l25Good p_t p_a.Old))), DetI (.bool ((s_l25Good p_t p_a.Old))), DetI (.agg #[.string (bs (p_t.Name)), .slice A1 p_t.Cols.length c1, .slice A2 p_t.Idxs.length c2]), DetI (.pointer (some ⟨b18, 0 + 2, none⟩)), DetI (.agg #[.slice A5 p_a.New.Vals.length c5]), DetI (.bool ((s_l25Good p_t p_a.New))), DetI (.bool ((s_l25Good p_t p_a.New))), DetI (.bool ((s_l25Good p_t p_a.New))), DetI (.pointer (some ⟨b18, 0 + 1, none⟩)), DetI (.pointer (some ⟨b18, 0 + 1 + 0, none⟩)), DetI (.slice A4 p_a.Old.Vals.length c4), DetI (.pointer (some ⟨eb95, eo95 + 0 * 1, none⟩)), DetI (.string (bs ((p_a.Old.Vals.getD 0 d_Str)))), DetI (.pointer (some ⟨b18, 0 + 2, none⟩)), DetI (.pointer (some ⟨b18, 0 + 2 + 0, none⟩)), DetI (.slice A5 p_a.New.Vals.length c5), DetI (.pointer (some ⟨eb96, eo96 + 0 * 1, none⟩)), DetI (.string (bs ((p_a.New.Vals.getD 0 d_Str)))), DetI (.bool ((p_a.Old.Vals.getD 0 d_Str) == (p_a.New.Vals.getD 0 d_Str))), DetI (.bool ((p_a.Old.Vals.getD 0 d_Str) == (p_a.New.Vals.getD 0 d_Str))), DetI (.bool ((p_a.Old.Vals.getD 0 d_Str) == (p_a.New.Vals.getD 0 d_Str)))]) Tryz.follows rfl rfl rfl rfl rfl rfl (vgetI_stable ⟨StableI.det _, StableI.det _, StableI.det _, StableI.det _, StableI.det _, StableI.det _, StableI.det _, StableI.det _, StableI.det _, StableI.det _, StableI.det _, StableI.det _, StableI.det _, StableI.det _, StableI.det _, StableI.det _, StableI.det _, StableI.det _, StableI.det _, StableI.det _, StableI.det _, StableI.det _, StableI.det _, StableI.det _, trivial⟩) ⟨?_, ?_, ?_, ?_, ?_, ?_, ?_, ?_, ?_, ?_, ?_, ?_, ?_, ?_, ?_, ?_, ?_, ?_, ?_, ?_, ?_, ?_, ?_, ?_, trivial⟩ ?_
      ·exact fun _ _ h => os rfl ((yl_loadN (cs := [.string (bs (p_t.Name)), .slice A1 p_t.Cols.length c1, .slice A2 p_t.Idxs.length c2]) Tryz.ty95 rfl (h.old 2 _ rfl rfl) ((Box.ex q84 h.ex).cells (n := 3) rfl) rfl kI))
      ·exact fun _ _ h => os rfl ((yl_fieldAddr Tryz.fd44_1 rfl (h.old 3 _ rfl rfl) kI))
      ·exact fun _ _ h => os rfl ((yl_loadN (cs := [.slice A4 p_a.Old.Vals.length c4]) Tryz.ty42 rfl (h.dt 1 36 rfl rfl rfl) ((Box.ex hB22 h.ex).cells (n := 1) rfl) rfl kI))
      ·intro L114 w115 hi116
       have hE117 := hi116.ex
       refine OpR.op' rfl (yl_call Tryz.en94 rfl (opvs_cons (hi116.dt 0 35 rfl rfl rfl) (opvs_cons (hi116.dt 2 37 rfl rfl rfl) opvs_nil)) (Cal.mono (c_s_l25Good p_t p_a.Old (RdS.up (RdS.ex good_Str q86 hE117) good_Str) (RdS.up (RdS.ex good_Idx q88 hE117) good_Idx) (RdS.up (RdS.ex good_Str q90 hE117) good_Str) o3 o6.1) ?_))
       rintro v124 w123 ⟨rfl, hE125⟩
       exact ⟨rfl, hE125⟩
      ·exact fun _ _ h => os rfl ((yl_move rfl (h.dt 3 38 rfl rfl rfl) kI))
      ·exact fun _ _ h => OpR.want rfl rfl (h.dt 4 39 rfl rfl rfl) hb71 (Yl.sameI (yl_loadN (cs := [.string (bs (p_t.Name)), .slice A1 p_t.Cols.length c1, .slice A2 p_t.Idxs.length c2]) Tryz.ty95 rfl (h.old 2 _ rfl rfl) ((Box.ex q84 h.ex).cells (n := 3) rfl) rfl kI))
      ·exact fun _ _ h => OpR.want rfl rfl (h.dt 4 39 rfl rfl rfl) hb71 (Yl.sameI (yl_fieldAddr Tryz.fd44_2 rfl (h.old 3 _ rfl rfl) kI))
      ·exact fun _ _ h => OpR.want rfl rfl (h.dt 4 39 rfl rfl rfl) hb71 (Yl.sameI (yl_loadN (cs := [.slice A5 p_a.New.Vals.length c5]) Tryz.ty42 rfl (h.dt 6 41 rfl rfl rfl) ((Box.ex hB22 h.ex).cells (n := 1) rfl) rfl kI))
      ·intro L151 w152 hi153
       have hE154 := hi153.ex
       refine OpR.want rfl rfl (hi153.dt 4 39 rfl rfl rfl) hb71 (yl_call Tryz.en94 rfl (opvs_cons (hi153.dt 5 40 rfl rfl rfl) (opvs_cons (hi153.dt 7 42 rfl rfl rfl) opvs_nil)) (Cal.mono (c_s_l25Good p_t p_a.New (RdS.up (RdS.ex good_Str q86 hE154) good_Str) (RdS.up (RdS.ex good_Idx q88 hE154) good_Idx) (RdS.up (RdS.ex good_Str q93 hE154) good_Str) o3 o6.2) ?_))
       rintro v162 w161 ⟨rfl, hE163⟩
       exact ⟨rfl, hE163⟩
      ·exact fun _ _ h => os rfl ((yl_pick_t rfl (h.dt 4 39 rfl rfl rfl) hb71 (h.dt 8 43 rfl rfl rfl) kI))
      ·exact fun _ _ h => os rfl ((yl_move rfl (h.dt 9 44 rfl rfl rfl) kI))
      ·exact fun _ _ h => OpR.want rfl rfl (h.dt 10 45 rfl rfl rfl) hb83 (Yl.sameI (yl_fieldAddr Tryz.fd44_1 rfl (h.old 3 _ rfl rfl) kI))
      ·exact fun _ _ h => OpR.want rfl rfl (h.dt 10 45 rfl rfl rfl) hb83 (Yl.sameI (yl_fieldAddr Tryz.fd42_0 rfl (h.dt 11 46 rfl rfl rfl) kI))
      ·exact fun _ _ h => OpR.want rfl rfl (h.dt 10 45 rfl rfl rfl) hb83 (Yl.sameI (yl_load1 Tryz.ty27 rfl (h.dt 12 47 rfl rfl rfl) (((Box.ex hB22 h.ex).cell 1).trans rfl) kI))
      ·intro L194 w195 hi196
       have hE197 := hi196.ex
       have hE197z := Ex.size hE197
       exact OpR.want rfl rfl (hi196.dt 10 45 rfl rfl rfl) hb83 (Yl.sameI (yl_indexAddrN Tryz.un27 Tryz.ty9 rfl (hi196.dt 13 48 rfl rfl rfl) rfl eA95 (by first | omega | assumption | (simp only [IntKind.wrap_i64] at *; omega)) kI))
      ·exact fun _ _ h => OpR.want rfl rfl (h.dt 10 45 rfl rfl rfl) hb83 (Yl.sameI (yl_load1 Tryz.ty9 rfl (h.dt 14 49 rfl rfl rfl) ((Cells.ex eC95 h.ex) 0 _ rfl) kI))
      ·exact fun _ _ h => OpR.want rfl rfl (h.dt 10 45 rfl rfl rfl) hb83 (Yl.sameI (yl_fieldAddr Tryz.fd44_2 rfl (h.old 3 _ rfl rfl) kI))
      ·exact fun _ _ h => OpR.want rfl rfl (h.dt 10 45 rfl rfl rfl) hb83 (Yl.sameI (yl_fieldAddr Tryz.fd42_0 rfl (h.dt 16 51 rfl rfl rfl) kI))
      ·exact fun _ _ h => OpR.want rfl rfl (h.dt 10 45 rfl rfl rfl) hb83 (Yl.sameI (yl_load1 Tryz.ty27 rfl (h.dt 17 52 rfl rfl rfl) (((Box.ex hB22 h.ex).cell 2).trans rfl) kI))
      ·intro L226 w227 hi228
       have hE229 := hi228.ex
       have hE229z := Ex.size hE229
       exact OpR.want rfl rfl (hi228.dt 10 45 rfl rfl rfl) hb83 (Yl.sameI (yl_indexAddrN Tryz.un27 Tryz.ty9 rfl (hi228.dt 18 53 rfl rfl rfl) rfl eA96 (by first | omega | assumption | (simp only [IntKind.wrap_i64] at *; omega)) kI))
      ·exact fun _ _ h => OpR.want rfl rfl (h.dt 10 45 rfl rfl rfl) hb83 (Yl.sameI (yl_load1 Tryz.ty9 rfl (h.dt 19 54 rfl rfl rfl) ((Cells.ex eC96 h.ex) 0 _ rfl) kI))
      ·exact fun _ _ h => OpR.want rfl rfl (h.dt 10 45 rfl rfl rfl) hb83 (Yl.sameI (yl_seql (a := (p_a.Old.Vals.getD 0 d_Str)) (b := (p_a.New.Vals.getD 0 d_Str)) rfl (h.dt 15 50 rfl rfl rfl) (h.dt 20 55 rfl rfl rfl) kI))
      ·exact fun _ _ h => os rfl ((yl_pick_t rfl (h.dt 10 45 rfl rfl rfl) hb83 (h.dt 21 56 rfl rfl rfl) kI))
      ·exact fun _ _ h => os rfl ((yl_assign rfl (h.dt 22 57 rfl rfl rfl) kI))
      ·intro fl260 fh261 L257 w258 hp259
       have hE262 := hp259.ex
       have hE262z := Ex.size hE262
       refine SeqR.done (tn (CW.sub (Sub.cons (d := 4) (hp259.nt 23 4 rfl rfl rfl) (Sub.nil _)) (CW.ret (br (tr (rr rfl (.cons rfl .nil) ?_))))))
       have hM264 : (s_l26Good p_t p_a) = ((p_a.Old.Vals.getD 0 d_Str) == (p_a.New.Vals.getD 0 d_Str)) := by simp only [s_l26Good, hb24, hb43, hb62, hb71, hb83, cond_true, cond_false, loopE_done, loopE_ret]
       rw [hM264]
       exact ⟨rfl, (Ex.trans (Ex.trans (Ex.trans (Ex.refl w) hE17) hE23) hE262)⟩
     ·have q268 := Box.ex hB16 hE23
      have q270 := RdS.ex good_Str (RdS.ex good_Str h1 hE17) hE23
      have q272 := RdS.ex good_Idx (RdS.ex good_Idx h2 hE17) hE23
      refine CW.drawsI 24 (vgetI [DetI (.agg #[.string (bs (p_t.Name)), .slice A1 p_t.Cols.length c1, .slice A2 p_t.Idxs.length c2]), DetI (.pointer (some ⟨b18, 0 + 1, none⟩)), DetI (.agg #[.slice A4 p_a.Old.Vals.length c4]), DetI (.bool ((s_l25Good p_t p_a.Old))), DetI (.bool ((s_l25Good p_t p_a.Old))), DetI (.agg #[.string (bs (p_t.Name)), .slice A1 p_t.Cols.length c1, .slice A2 p_t.Idxs.length c2]), DetI (.pointer (some ⟨b18, 0 + 2, none⟩)), DetI (.agg #[.slice A5 p_a.New.Vals.length c5]), DetI (.bool ((s_l25Good p_t p_a.New))), DetI (.bool ((s_l25Good p_t p_a.New))), DetI (.bool ((s_l25Good p_t p_a.New))), DetI (undef), DetI (undef), DetI (undef), DetI (undef), DetI (undef), DetI (undef), DetI (undef), DetI (undef), DetI (undef), DetI (undef), DetI (undef), DetI (.bool (false)), DetI (.bool (false))]) Tryz.follows rfl rfl rfl rfl rfl rfl (vgetI_stable ⟨StableI.det _, StableI.det _, StableI.det _, StableI.det _, StableI.det _, StableI.det _, StableI.det _, StableI.det _, StableI.det _, StableI.det _, StableI.det _, StableI.det _, StableI.det _, StableI.det _, StableI.det _, StableI.det _, StableI.det _, StableI.det _, StableI.det _, StableI.det _, StableI.det _, StableI.det _, StableI.det _, StableI.det _, trivial⟩) ⟨?_, ?_, ?_, ?_, ?_, ?_, ?_, ?_, ?_, ?_, ?_, ?_, ?_, ?_, ?_, ?_, ?_, ?_, ?_, ?_, ?_, ?_, ?_, ?_, trivial⟩ ?_
      ·exact fun _ _ h => os rfl ((yl_loadN (cs := [.string (bs (p_t.Name)), .slice A1 p_t.Cols.length c1, .slice A2 p_t.Idxs.length c2]) Tryz.ty95 rfl (h.old 2 _ rfl rfl) ((Box.ex q268 h.ex).cells (n := 3) rfl) rfl kI))
      ·exact fun _ _ h => os rfl ((yl_fieldAddr Tryz.fd44_1 rfl (h.old 3 _ rfl rfl) kI))
      ·exact fun _ _ h => os rfl ((yl_loadN (cs := [.slice A4 p_a.Old.Vals.length c4]) Tryz.ty42 rfl (h.dt 1 36 rfl rfl rfl) ((Box.ex hB22 h.ex).cells (n := 1) rfl) rfl kI))
      ·intro L296 w297 hi298
       have hE299 := hi298.ex
       refine OpR.op' rfl (yl_call Tryz.en94 rfl (opvs_cons (hi298.dt 0 35 rfl rfl rfl) (opvs_cons (hi298.dt 2 37 rfl rfl rfl) opvs_nil)) (Cal.mono (c_s_l25Good p_t p_a.Old (RdS.up (RdS.ex good_Str q270 hE299) good_Str) (RdS.up (RdS.ex good_Idx q272 hE299) good_Idx) (RdS.up (RdS.ex good_Str (RdS.ex good_Str (RdS.ex good_Str h4 hE17) hE23) hE299) good_Str) o3 o6.1) ?_))
       rintro v306 w305 ⟨rfl, hE307⟩
       exact ⟨rfl, hE307⟩
      ·exact fun _ _ h => os rfl ((yl_move rfl (h.dt 3 38 rfl rfl rfl) kI))
      ·exact fun _ _ h => OpR.want rfl rfl (h.dt 4 39 rfl rfl rfl) hb71 (Yl.sameI (yl_loadN (cs := [.string (bs (p_t.Name)), .slice A1 p_t.Cols.length c1, .slice A2 p_t.Idxs.length c2]) Tryz.ty95 rfl (h.old 2 _ rfl rfl) ((Box.ex q268 h.ex).cells (n := 3) rfl) rfl kI))
      ·exact fun _ _ h => OpR.want rfl rfl (h.dt 4 39 rfl rfl rfl) hb71 (Yl.sameI (yl_fieldAddr Tryz.fd44_2 rfl (h.old 3 _ rfl rfl) kI))
      ·exact fun _ _ h => OpR.want rfl rfl (h.dt 4 39 rfl rfl rfl) hb71 (Yl.sameI (yl_loadN (cs := [.slice A5 p_a.New.Vals.length c5]) Tryz.ty42 rfl (h.dt 6 41 rfl rfl rfl) ((Box.ex hB22 h.ex).cells (n := 1) rfl) rfl kI))
      ·intro L333 w334 hi335
       have hE336 := hi335.ex
       refine OpR.want rfl rfl (hi335.dt 4 39 rfl rfl rfl) hb71 (yl_call Tryz.en94 rfl (opvs_cons (hi335.dt 5 40 rfl rfl rfl) (opvs_cons (hi335.dt 7 42 rfl rfl rfl) opvs_nil)) (Cal.mono (c_s_l25Good p_t p_a.New (RdS.up (RdS.ex good_Str q270 hE336) good_Str) (RdS.up (RdS.ex good_Idx q272 hE336) good_Idx) (RdS.up (RdS.ex good_Str (RdS.ex good_Str (RdS.ex good_Str h5 hE17) hE23) hE336) good_Str) o3 o6.2) ?_))
       rintro v344 w343 ⟨rfl, hE345⟩
       exact ⟨rfl, hE345⟩
      ·exact fun _ _ h => os rfl ((yl_pick_t rfl (h.dt 4 39 rfl rfl rfl) hb71 (h.dt 8 43 rfl rfl rfl) kI))
      ·exact fun _ _ h => os rfl ((yl_move rfl (h.dt 9 44 rfl rfl rfl) kI))
      ·exact fun _ _ h => OpR.skip rfl rfl (h.dt 10 45 rfl rfl rfl) hb83 ⟨rfl, Ex.refl _⟩
      ·exact fun _ _ h => OpR.skip rfl rfl (h.dt 10 45 rfl rfl rfl) hb83 ⟨rfl, Ex.refl _⟩
      ·exact fun _ _ h => OpR.skip rfl rfl (h.dt 10 45 rfl rfl rfl) hb83 ⟨rfl, Ex.refl _⟩
      ·exact fun _ _ h => OpR.skip rfl rfl (h.dt 10 45 rfl rfl rfl) hb83 ⟨rfl, Ex.refl _⟩
      ·exact fun _ _ h => OpR.skip rfl rfl (h.dt 10 45 rfl rfl rfl) hb83 ⟨rfl, Ex.refl _⟩
      ·exact fun _ _ h => OpR.skip rfl rfl (h.dt 10 45 rfl rfl rfl) hb83 ⟨rfl, Ex.refl _⟩
      ·exact fun _ _ h => OpR.skip rfl rfl (h.dt 10 45 rfl rfl rfl) hb83 ⟨rfl, Ex.refl _⟩
      ·exact fun _ _ h => OpR.skip rfl rfl (h.dt 10 45 rfl rfl rfl) hb83 ⟨rfl, Ex.refl _⟩
      ·exact fun _ _ h => OpR.skip rfl rfl (h.dt 10 45 rfl rfl rfl) hb83 ⟨rfl, Ex.refl _⟩
      ·exact fun _ _ h => OpR.skip rfl rfl (h.dt 10 45 rfl rfl rfl) hb83 ⟨rfl, Ex.refl _⟩
      ·exact fun _ _ h => OpR.skip rfl rfl (h.dt 10 45 rfl rfl rfl) hb83 ⟨rfl, Ex.refl _⟩
      ·exact fun _ _ h => os rfl ((yl_pick_f rfl (h.dt 10 45 rfl rfl rfl) hb83 rfl kI))
      ·exact fun _ _ h => os rfl ((yl_assign rfl (h.dt 22 57 rfl rfl rfl) kI))
      ·intro fl426 fh427 L423 w424 hp425
       have hE428 := hp425.ex
       have hE428z := Ex.size hE428
       refine SeqR.done (tn (CW.sub (Sub.cons (d := 4) (hp425.nt 23 4 rfl rfl rfl) (Sub.nil _)) (CW.ret (br (tr (rr rfl (.cons rfl .nil) ?_))))))
       have hM430 : (s_l26Good p_t p_a) = (false) := by simp only [s_l26Good, hb24, hb43, hb62, hb71, hb83, cond_true, cond_false, loopE_done, loopE_ret]
       rw [hM430]
       exact ⟨rfl, (Ex.trans (Ex.trans (Ex.trans (Ex.refl w) hE17) hE23) hE428)⟩
    ·refine CW.drawsI 24 (vgetI [DetI (.agg #[.string (bs (p_t.Name)), .slice A1 p_t.Cols.length c1, .slice A2 p_t.Idxs.length c2]), DetI (.pointer (some ⟨b18, 0 + 1, none⟩)), DetI (.agg #[.slice A4 p_a.Old.Vals.length c4]), DetI (.bool ((s_l25Good p_t p_a.Old))), DetI (.bool ((s_l25Good p_t p_a.Old))), DetI (undef), DetI (undef), DetI (undef), DetI (undef), DetI (.bool (false)), DetI (.bool (false)), DetI (undef), DetI (undef), DetI (undef), DetI (undef), DetI (undef), DetI (undef), DetI (undef), DetI (undef), DetI (undef), DetI (undef), DetI (undef), DetI (.bool (false)), DetI (.bool (false))]) Tryz.follows rfl rfl rfl rfl rfl rfl (vgetI_stable ⟨StableI.det _, StableI.det _, StableI.det _, StableI.det _, StableI.det _, StableI.det _, StableI.det _, StableI.det _, StableI.det _, StableI.det _, StableI.det _, StableI.det _, StableI.det _, StableI.det _, StableI.det _, StableI.det _, StableI.det _, StableI.det _, StableI.det _, StableI.det _, StableI.det _, StableI.det _, StableI.det _, StableI.det _, trivial⟩) ⟨?_, ?_, ?_, ?_, ?_, ?_, ?_, ?_, ?_, ?_, ?_, ?_, ?_, ?_, ?_, ?_, ?_, ?_, ?_, ?_, ?_, ?_, ?_, ?_, trivial⟩ ?_
     ·exact fun _ _ h => os rfl ((yl_loadN (cs := [.string (bs (p_t.Name)), .slice A1 p_t.Cols.length c1, .slice A2 p_t.Idxs.length c2]) Tryz.ty95 rfl (h.old 2 _ rfl rfl) ((Box.ex (Box.ex hB16 hE23) h.ex).cells (n := 3) rfl) rfl kI))
     ·exact fun _ _ h => os rfl ((yl_fieldAddr Tryz.fd44_1 rfl (h.old 3 _ rfl rfl) kI))
     ·exact fun _ _ h => os rfl ((yl_loadN (cs := [.slice A4 p_a.Old.Vals.length c4]) Tryz.ty42 rfl (h.dt 1 36 rfl rfl rfl) ((Box.ex hB22 h.ex).cells (n := 1) rfl) rfl kI))
     ·intro L459 w460 hi461
      have hE462 := hi461.ex
      refine OpR.op' rfl (yl_call Tryz.en94 rfl (opvs_cons (hi461.dt 0 35 rfl rfl rfl) (opvs_cons (hi461.dt 2 37 rfl rfl rfl) opvs_nil)) (Cal.mono (c_s_l25Good p_t p_a.Old (RdS.up (RdS.ex good_Str (RdS.ex good_Str (RdS.ex good_Str h1 hE17) hE23) hE462) good_Str) (RdS.up (RdS.ex good_Idx (RdS.ex good_Idx (RdS.ex good_Idx h2 hE17) hE23) hE462) good_Idx) (RdS.up (RdS.ex good_Str (RdS.ex good_Str (RdS.ex good_Str h4 hE17) hE23) hE462) good_Str) o3 o6.1) ?_))
      rintro v469 w468 ⟨rfl, hE470⟩
      exact ⟨rfl, hE470⟩
     ·exact fun _ _ h => os rfl ((yl_move rfl (h.dt 3 38 rfl rfl rfl) kI))
     ·exact fun _ _ h => OpR.skip rfl rfl (h.dt 4 39 rfl rfl rfl) hb71 ⟨rfl, Ex.refl _⟩
     ·exact fun _ _ h => OpR.skip rfl rfl (h.dt 4 39 rfl rfl rfl) hb71 ⟨rfl, Ex.refl _⟩
     ·exact fun _ _ h => OpR.skip rfl rfl (h.dt 4 39 rfl rfl rfl) hb71 ⟨rfl, Ex.refl _⟩
     ·exact fun _ _ h => OpR.skip rfl rfl (h.dt 4 39 rfl rfl rfl) hb71 ⟨rfl, Ex.refl _⟩
     ·exact fun _ _ h => os rfl ((yl_pick_f rfl (h.dt 4 39 rfl rfl rfl) hb71 rfl kI))
     ·exact fun _ _ h => os rfl ((yl_move rfl (h.dt 9 44 rfl rfl rfl) kI))
     ·exact fun _ _ h => OpR.skip rfl rfl (h.dt 10 45 rfl rfl rfl) rfl ⟨rfl, Ex.refl _⟩
     ·exact fun _ _ h => OpR.skip rfl rfl (h.dt 10 45 rfl rfl rfl) rfl ⟨rfl, Ex.refl _⟩
     ·exact fun _ _ h => OpR.skip rfl rfl (h.dt 10 45 rfl rfl rfl) rfl ⟨rfl, Ex.refl _⟩
     ·exact fun _ _ h => OpR.skip rfl rfl (h.dt 10 45 rfl rfl rfl) rfl ⟨rfl, Ex.refl _⟩
     ·exact fun _ _ h => OpR.skip rfl rfl (h.dt 10 45 rfl rfl rfl) rfl ⟨rfl, Ex.refl _⟩
     ·exact fun _ _ h => OpR.skip rfl rfl (h.dt 10 45 rfl rfl rfl) rfl ⟨rfl, Ex.refl _⟩
     ·exact fun _ _ h => OpR.skip rfl rfl (h.dt 10 45 rfl rfl rfl) rfl ⟨rfl, Ex.refl _⟩
     ·exact fun _ _ h => OpR.skip rfl rfl (h.dt 10 45 rfl rfl rfl) rfl ⟨rfl, Ex.refl _⟩
     ·exact fun _ _ h => OpR.skip rfl rfl (h.dt 10 45 rfl rfl rfl) rfl ⟨rfl, Ex.refl _⟩
     ·exact fun _ _ h => OpR.skip rfl rfl (h.dt 10 45 rfl rfl rfl) rfl ⟨rfl, Ex.refl _⟩
     ·exact fun _ _ h => OpR.skip rfl rfl (h.dt 10 45 rfl rfl rfl) rfl ⟨rfl, Ex.refl _⟩
     ·exact fun _ _ h => os rfl ((yl_pick_f rfl (h.dt 10 45 rfl rfl rfl) rfl rfl kI))
     ·exact fun _ _ h => os rfl ((yl_assign rfl (h.dt 22 57 rfl rfl rfl) kI))
     ·intro fl576 fh577 L573 w574 hp575
      have hE578 := hp575.ex
      have hE578z := Ex.size hE578
      refine SeqR.done (tn (CW.sub (Sub.cons (d := 4) (hp575.nt 23 4 rfl rfl rfl) (Sub.nil _)) (CW.ret (br (tr (rr rfl (.cons rfl .nil) ?_))))))
      have hM580 : (s_l26Good p_t p_a) = (false) := by simp only [s_l26Good, hb24, hb43, hb62, hb71, cond_true, cond_false, loopE_done, loopE_ret]
      rw [hM580]
      exact ⟨rfl, (Ex.trans (Ex.trans (Ex.trans (Ex.refl w) hE17) hE23) hE578)⟩
   ·have hb62p := dec_f hb62
    refine CW.cond_f rfl hb62 (CW.skip (bn (tn (CW.seq (CW.region (sd rfl (yl_assign rfl rfl (SeqR.done (tn ?_)))))))))
    refine CW.ret (rr rfl (.cons rfl .nil) ?_)
    have hM584 : (s_l26Good p_t p_a) = (false) := by simp only [s_l26Good, hb24, hb43, hb62, cond_true, cond_false, loopE_done, loopE_ret]
    rw [hM584]
    exact ⟨rfl, (Ex.trans (Ex.trans (Ex.refl w) hE17) hE23)⟩
set_option maxRecDepth 100000 in
set_option maxHeartbeats 2000000 in
theorem c_s_l27Good {A1 : Option Addr} {c1 : Nat} {A2 : Option Addr} {c2 : Nat} {A3 : Option Addr} {c3 : Nat} {A5 : Option Addr} {c5 : Nat} {A6 : Option Addr} {c6 : Nat} {w : World} (p_c : DShift) (p_a : DShiftAct) (h1 : RdS w (Iv 0 w.heap.size) R_Table 3 A1 p_c.Ways.length c1 p_c.Ways) (h2 : RdS w (Iv 0 w.heap.size) (RF e_Int) 1 A2 p_c.At.length c2 p_c.At) (h3 : RdS w (Iv 0 w.heap.size) (RF e_Write) 3 A3 p_c.Store.length c3 p_c.Store) (h5 : RdS w (Iv 0 w.heap.size) (RF e_Str) 1 A5 p_a.Act.Old.Vals.length c5 p_a.Act.Old.Vals) (h6 : RdS w (Iv 0 w.heap.size) (RF e_Str) 1 A6 p_a.Act.New.Vals.length c6 p_a.Act.New.Vals) (o4 : ok_Shift p_c) (o7 : ok_ShiftAct p_a) (pre0 : ShiftOk p_c) : Cal Tryz.prog 29 #[.agg #[.string (bs (p_c.Name)), .slice A1 p_c.Ways.length c1, .slice A2 p_c.At.length c2, .slice A3 p_c.Store.length c3], .agg #[.int .i64 (p_a.Server), .int .i64 (p_a.Step), .int .i64 (p_a.Act.Kind), .slice A5 p_a.Act.Old.Vals.length c5, .slice A6 p_a.Act.New.Vals.length c6]] w fun v w' => v = .bool ((s_l27Good p_c p_a)) ∧ Ex w w' := by
 have hol8 : p_c.Name.length ≤ 1073741824 := o4.1
 have hol9 := o4.2.1.1
 have hol10 := o4.2.2.1.1
 have hol11 := o4.2.2.2.1
 have hol12 := o7.1.1
 have hol13 := o7.2.1
 refine Cal.of (vs := [.agg #[.string (bs (p_c.Name)), .slice A1 p_c.Ways.length c1, .slice A2 p_c.At.length c2, .slice A3 p_c.Store.length c3], .agg #[.int .i64 (p_a.Server), .int .i64 (p_a.Step), .int .i64 (p_a.Act.Kind), .slice A5 p_a.Act.Old.Vals.length c5, .slice A6 p_a.Act.New.Vals.length c6]]) Tryz.func29 rfl Tryz.ntmps29 rfl (CW.seq (CW.region (sd rfl (yl_box (cs := [.string (bs (p_c.Name)), .slice A1 p_c.Ways.length c1, .slice A2 p_c.At.length c2, .slice A3 p_c.Store.length c3]) rfl rfl rfl ?_))))
 intro b14 w15 hs16 hz17 hB18 hE19
 refine sd rfl (yl_box (cs := [.int .i64 (p_a.Server), .int .i64 (p_a.Step), .int .i64 (p_a.Act.Kind), .slice A5 p_a.Act.Old.Vals.length c5, .slice A6 p_a.Act.New.Vals.length c6]) rfl rfl rfl ?_)
 intro b20 w21 hs22 hz23 hB24 hE25
 refine sd rfl (yl_assign rfl rfl (SeqR.done (tn (CW.seq (CW.seq (CW.region (sd rfl (yl_fieldAddr Tryz.fd46_0 rfl rfl (sd rfl (yl_load1 Tryz.ty3 rfl rfl ((hB24.cell 0).trans rfl) (sd rfl (yl_fieldAddr Tryz.fd40_2 rfl rfl ?_))))))))))))
 have q26 := Box.ex hB18 hE25
 refine sd rfl (yl_load1 Tryz.ty23 rfl rfl ((q26.cell 2).trans rfl) (sd rfl (yl_len Tryz.un23 rfl rfl (sd rfl (yl_sub rfl rfl rfl (sd rfl (yl_call Tryz.en55 rfl (opvs_cons rfl (opvs_cons rfl (opvs_cons rfl opvs_nil))) (Cal.mono (c_s_l1In p_a.Server 0 (IntKind.wrap .i64 ((p_c.At.length : Int) - 1))) ?_))))))))
 rintro v28 w27 ⟨rfl, hE29⟩
 have hE29z := Ex.size hE29
 refine sd rfl (yl_not rfl rfl (SeqR.done (tn (bcase (s_l1In p_a.Server 0 (IntKind.wrap .i64 ((p_c.At.length : Int) - 1))) (fun hb30 => ?_) (fun hb30 => ?_)))))
 ·have hb30p := ShiftOk.srv pre0 hb30
  refine CW.cond_f rfl (not_t hb30) (CW.skip (tn (CW.seq (CW.seq (CW.region (sd rfl (yl_fieldAddr Tryz.fd46_1 rfl rfl ?_)))))))
  have q31 := Box.ex hB24 hE29
  refine sd rfl (yl_load1 Tryz.ty3 rfl rfl ((q31.cell 1).trans rfl) (sd rfl (yl_eql rfl rfl rfl (sd rfl (yl_move rfl rfl (bcase (decide (p_a.Step = 1)) (fun hb32 => ?_) (fun hb32 => ?_)))))))
  ·have hb32p := dec_t hb32
   refine sz rfl rfl hb32 (sz rfl rfl hb32 (sz rfl rfl hb32 (sd rfl (yl_pick_t rfl rfl hb32 rfl (SeqR.done (tn (CW.cond_t rfl rfl (CW.seq (CW.region ?_)))))))))
   refine sd rfl (yl_fieldAddr Tryz.fd46_2 rfl rfl (sd rfl (yl_loadN (cs := [.int .i64 (p_a.Act.Kind), .slice A5 p_a.Act.Old.Vals.length c5, .slice A6 p_a.Act.New.Vals.length c6]) Tryz.ty44 rfl rfl (q31.cells (n := 3) rfl) rfl (sd rfl (yl_call Tryz.en58 rfl (opvs_cons rfl opvs_nil) (Cal.mono (c_s_l27Empty p_a.Act (RdS.up (RdS.ex good_Str (RdS.ex good_Str (RdS.ex good_Str h5 hE19) hE25) hE29) good_Str) (RdS.up (RdS.ex good_Str (RdS.ex good_Str (RdS.ex good_Str h6 hE19) hE25) hE29) good_Str) o7) ?_))))))
   rintro v40 w39 ⟨rfl, hE41⟩
   have hE41z := Ex.size hE41
   refine sd rfl (yl_assign rfl rfl (SeqR.done (tn (CW.ret (tr (rr rfl (.cons rfl .nil) ?_))))))
   have hM42 : (s_l27Good p_c p_a) = ((s_l27Empty p_a.Act)) := by simp only [s_l27Good, hb30, hb32, cond_true, cond_false, loopE_done, loopE_ret]
   rw [hM42]
   exact ⟨rfl, (Ex.trans (Ex.trans (Ex.trans (Ex.trans (Ex.refl w) hE19) hE25) hE29) hE41)⟩
  ·have hb32p := dec_f hb32
   refine sy rfl rfl hb32 (yl_fieldAddr Tryz.fd46_1 rfl rfl (sy rfl rfl hb32 (yl_load1 Tryz.ty3 rfl rfl ((q31.cell 1).trans rfl) (sy rfl rfl hb32 (yl_eql rfl rfl rfl (sd rfl (yl_pick_f rfl rfl hb32 rfl (SeqR.done (tn (bcase (decide (p_a.Step = (-1))) (fun hb47 => ?_) (fun hb47 => ?_)))))))))))
   ·have hb47p := dec_t hb47
    refine CW.cond_t rfl hb47 (CW.seq (CW.region (sd rfl (yl_fieldAddr Tryz.fd46_2 rfl rfl (sd rfl (yl_loadN (cs := [.int .i64 (p_a.Act.Kind), .slice A5 p_a.Act.Old.Vals.length c5, .slice A6 p_a.Act.New.Vals.length c6]) Tryz.ty44 rfl rfl (q31.cells (n := 3) rfl) rfl (sd rfl (yl_call Tryz.en58 rfl (opvs_cons rfl opvs_nil) (Cal.mono (c_s_l27Empty p_a.Act (RdS.up (RdS.ex good_Str (RdS.ex good_Str (RdS.ex good_Str h5 hE19) hE25) hE29) good_Str) (RdS.up (RdS.ex good_Str (RdS.ex good_Str (RdS.ex good_Str h6 hE19) hE25) hE29) good_Str) o7) ?_)))))))))
    rintro v55 w54 ⟨rfl, hE56⟩
    have hE56z := Ex.size hE56
    refine sd rfl (yl_assign rfl rfl (SeqR.done (tn (CW.ret (tr (rr rfl (.cons rfl .nil) ?_))))))
    have hM57 : (s_l27Good p_c p_a) = ((s_l27Empty p_a.Act)) := by simp only [s_l27Good, hb30, hb32, hb47, cond_true, cond_false, loopE_done, loopE_ret]
    rw [hM57]
    exact ⟨rfl, (Ex.trans (Ex.trans (Ex.trans (Ex.trans (Ex.refl w) hE19) hE25) hE29) hE56)⟩
   ·have hb47p := dec_f hb47
    refine CW.cond_f rfl hb47 (CW.skip (tn (CW.seq (bcase (decide (p_a.Step = 0)) (fun hb62 => ?_) (fun hb62 => ?_)))))
    ·have hb62p := dec_t hb62
     have q63 := Box.ex q26 hE29
     obtain ⟨eb67, eo67, ec67, eA67, eS67, ebl67, el67, eR67, eC67⟩ := RdS.atD (RdS.ex good_Int (RdS.ex good_Int (RdS.ex good_Int h2 hE19) hE25) hE29) d_Int (i := (p_a.Server).toNat) (by first | omega | assumption | (simp only [IntKind.wrap_i64] at *; omega))
     obtain rfl := eR67
     have eC67 : Cells w27 eb67 (eo67 + ((p_a.Server).toNat) * 1) [.int .i64 ((p_c.At.getD ((p_a.Server).toNat) d_Int))] := eC67
     obtain ⟨eb71, eo71, ec71, eA71, eS71, ebl71, el71, eR71, eC71⟩ := RdS.atD (RdS.ex good_Table (RdS.ex good_Table (RdS.ex good_Table h1 hE19) hE25) hE29) d_Table (i := ((p_c.At.getD ((p_a.Server).toNat) d_Int)).toNat) (by first | omega | assumption | (simp only [IntKind.wrap_i64] at *; omega))
     obtain ⟨A72, c72, A73, c73, rfl, h72, h73⟩ := eR71
     have eC71 : Cells w27 eb71 (eo71 + (((p_c.At.getD ((p_a.Server).toNat) d_Int)).toNat) * 3) [.string (bs ((p_c.Ways.getD (((p_c.At.getD ((p_a.Server).toNat) d_Int)).toNat) d_Table).Name)), .slice A72 (((p_c.Ways.getD (((p_c.At.getD ((p_a.Server).toNat) d_Int)).toNat) d_Table).Cols).length) c72, .slice A73 (((p_c.Ways.getD (((p_c.At.getD ((p_a.Server).toNat) d_Int)).toNat) d_Table).Idxs).length) c73] := eC71
     refine CW.drawsI 19 (vgetI [DetI (.pointer (some ⟨b20, 0 + 1, none⟩)), DetI (.int .i64 (p_a.Step)), DetI (.bool (decide (p_a.Step = 0))), DetI (.bool (decide (p_a.Step = 0))), DetI (.pointer (some ⟨b14, 0 + 1, none⟩)), DetI (.slice A1 p_c.Ways.length c1), DetI (.pointer (some ⟨b14, 0 + 2, none⟩)), DetI (.slice A2 p_c.At.length c2), DetI (.pointer (some ⟨b20, 0 + 0, none⟩)), DetI (.int .i64 (p_a.Server)), DetI (.pointer (some ⟨eb67, eo67 + ((p_a.Server).toNat) * 1, none⟩)), DetI (.int .i64 ((p_c.At.getD ((p_a.Server).toNat) d_Int))), DetI (.pointer (some ⟨eb71, eo71 + (((p_c.At.getD ((p_a.Server).toNat) d_Int)).toNat) * 3, none⟩)), DetI (.agg #[.string (bs ((p_c.Ways.getD (((p_c.At.getD ((p_a.Server).toNat) d_Int)).toNat) d_Table).Name)), .slice A72 (((p_c.Ways.getD (((p_c.At.getD ((p_a.Server).toNat) d_Int)).toNat) d_Table).Cols).length) c72, .slice A73 (((p_c.Ways.getD (((p_c.At.getD ((p_a.Server).toNat) d_Int)).toNat) d_Table).Idxs).length) c73]), DetI (.pointer (some ⟨b20, 0 + 2, none⟩)), DetI (.agg #[.int .i64 (p_a.Act.Kind), .slice A5 p_a.Act.Old.Vals.length c5, .slice A6 p_a.Act.New.Vals.length c6]), DetI (.bool ((s_l26Good (p_c.Ways.getD (((p_c.At.getD ((p_a.Server).toNat) d_Int)).toNat) d_Table) p_a.Act))), DetI (.bool ((s_l26Good (p_c.Ways.getD (((p_c.At.getD ((p_a.Server).toNat) d_Int)).toNat) d_Table) p_a.Act))), DetI (.bool ((s_l26Good (p_c.Ways.getD (((p_c.At.getD ((p_a.Server).toNat) d_Int)).toNat) d_Table) p_a.Act)))]) Tryz.follows rfl rfl rfl rfl rfl rfl (vgetI_stable ⟨StableI.det _, StableI.det _, StableI.det _, StableI.det _, StableI.det _, StableI.det _, StableI.det _, StableI.det _, StableI.det _, StableI.det _, StableI.det _, StableI.det _, StableI.det _, StableI.det _, StableI.det _, StableI.det _, StableI.det _, StableI.det _, StableI.det _, trivial⟩) ⟨?_, ?_, ?_, ?_, ?_, ?_, ?_, ?_, ?_, ?_, ?_, ?_, ?_, ?_, ?_, ?_, ?_, ?_, ?_, trivial⟩ ?_
     ·exact fun _ _ h => os rfl ((yl_fieldAddr Tryz.fd46_1 rfl (h.old 3 _ rfl rfl) kI))
     ·exact fun _ _ h => os rfl ((yl_load1 Tryz.ty3 rfl (h.dt 0 24 rfl rfl rfl) (((Box.ex q31 h.ex).cell 1).trans rfl) kI))
     ·exact fun _ _ h => os rfl ((yl_eql rfl (h.dt 1 25 rfl rfl rfl) rfl kI))
     ·exact fun _ _ h => os rfl ((yl_move rfl (h.dt 2 26 rfl rfl rfl) kI))
     ·exact fun _ _ h => OpR.want rfl rfl (h.dt 3 27 rfl rfl rfl) hb62 (Yl.sameI (yl_fieldAddr Tryz.fd40_1 rfl (h.old 2 _ rfl rfl) kI))
     ·exact fun _ _ h => OpR.want rfl rfl (h.dt 3 27 rfl rfl rfl) hb62 (Yl.sameI (yl_load1 Tryz.ty37 rfl (h.dt 4 28 rfl rfl rfl) (((Box.ex q63 h.ex).cell 1).trans rfl) kI))
     ·exact fun _ _ h => OpR.want rfl rfl (h.dt 3 27 rfl rfl rfl) hb62 (Yl.sameI (yl_fieldAddr Tryz.fd40_2 rfl (h.old 2 _ rfl rfl) kI))
     ·exact fun _ _ h => OpR.want rfl rfl (h.dt 3 27 rfl rfl rfl) hb62 (Yl.sameI (yl_load1 Tryz.ty23 rfl (h.dt 6 30 rfl rfl rfl) (((Box.ex q63 h.ex).cell 2).trans rfl) kI))
     ·exact fun _ _ h => OpR.want rfl rfl (h.dt 3 27 rfl rfl rfl) hb62 (Yl.sameI (yl_fieldAddr Tryz.fd46_0 rfl (h.old 3 _ rfl rfl) kI))
     ·exact fun _ _ h => OpR.want rfl rfl (h.dt 3 27 rfl rfl rfl) hb62 (Yl.sameI (yl_load1 Tryz.ty3 rfl (h.dt 8 32 rfl rfl rfl) (((Box.ex q31 h.ex).cell 0).trans rfl) kI))
     ·intro L141 w142 hi143
      have hE144 := hi143.ex
      have hE144z := Ex.size hE144
      exact OpR.want rfl rfl (hi143.dt 3 27 rfl rfl rfl) hb62 (Yl.sameI (yl_indexAddr Tryz.un23 Tryz.ty3 rfl (hi143.dt 7 31 rfl rfl rfl) (hi143.dt 9 33 rfl rfl rfl) eA67 (by first | omega | assumption | (simp only [IntKind.wrap_i64] at *; omega)) (by first | omega | assumption | (simp only [IntKind.wrap_i64] at *; omega)) kI))
     ·exact fun _ _ h => OpR.want rfl rfl (h.dt 3 27 rfl rfl rfl) hb62 (Yl.sameI (yl_load1 Tryz.ty3 rfl (h.dt 10 34 rfl rfl rfl) ((Cells.ex eC67 h.ex) 0 _ rfl) kI))
     ·intro L155 w156 hi157
      have hE158 := hi157.ex
      have hE158z := Ex.size hE158
      exact OpR.want rfl rfl (hi157.dt 3 27 rfl rfl rfl) hb62 (Yl.sameI (yl_indexAddr Tryz.un37 Tryz.ty95 rfl (hi157.dt 5 29 rfl rfl rfl) (hi157.dt 11 35 rfl rfl rfl) eA71 (by first | omega | assumption | (simp only [IntKind.wrap_i64] at *; omega)) (by first | omega | assumption | (simp only [IntKind.wrap_i64] at *; omega)) kI))
     ·exact fun _ _ h => OpR.want rfl rfl (h.dt 3 27 rfl rfl rfl) hb62 (Yl.sameI (yl_loadN (cs := [.string (bs ((p_c.Ways.getD (((p_c.At.getD ((p_a.Server).toNat) d_Int)).toNat) d_Table).Name)), .slice A72 (((p_c.Ways.getD (((p_c.At.getD ((p_a.Server).toNat) d_Int)).toNat) d_Table).Cols).length) c72, .slice A73 (((p_c.Ways.getD (((p_c.At.getD ((p_a.Server).toNat) d_Int)).toNat) d_Table).Idxs).length) c73]) Tryz.ty95 rfl (h.dt 12 36 rfl rfl rfl) (Cells.ex eC71 h.ex) rfl kI))
     ·exact fun _ _ h => OpR.want rfl rfl (h.dt 3 27 rfl rfl rfl) hb62 (Yl.sameI (yl_fieldAddr Tryz.fd46_2 rfl (h.old 3 _ rfl rfl) kI))
     ·exact fun _ _ h => OpR.want rfl rfl (h.dt 3 27 rfl rfl rfl) hb62 (Yl.sameI (yl_loadN (cs := [.int .i64 (p_a.Act.Kind), .slice A5 p_a.Act.Old.Vals.length c5, .slice A6 p_a.Act.New.Vals.length c6]) Tryz.ty44 rfl (h.dt 14 38 rfl rfl rfl) ((Box.ex q31 h.ex).cells (n := 3) rfl) rfl kI))
     ·intro L182 w183 hi184
      have hE185 := hi184.ex
      have hE185z := Ex.size hE185
      refine OpR.want rfl rfl (hi184.dt 3 27 rfl rfl rfl) hb62 (yl_call Tryz.en59 rfl (opvs_cons (hi184.dt 13 37 rfl rfl rfl) (opvs_cons (hi184.dt 15 39 rfl rfl rfl) opvs_nil)) (Cal.mono (c_s_l26Good (p_c.Ways.getD (((p_c.At.getD ((p_a.Server).toNat) d_Int)).toNat) d_Table) p_a.Act (RdS.up (RdS.ex good_Str h72 hE185) good_Str) (RdS.up (RdS.ex good_Idx h73 hE185) good_Idx) (RdS.up (RdS.ex good_Str (RdS.ex good_Str (RdS.ex good_Str (RdS.ex good_Str h5 hE19) hE25) hE29) hE185) good_Str) (RdS.up (RdS.ex good_Str (RdS.ex good_Str (RdS.ex good_Str (RdS.ex good_Str h6 hE19) hE25) hE29) hE185) good_Str) (okL.getD o4.2.1 ok_d_Table _) o7 (by first | omega | assumption | (simp only [IntKind.wrap_i64] at *; omega))) ?_))
      rintro v194 w193 ⟨rfl, hE195⟩
      exact ⟨rfl, hE195⟩
     ·exact fun _ _ h => os rfl ((yl_pick_t rfl (h.dt 3 27 rfl rfl rfl) hb62 (h.dt 16 40 rfl rfl rfl) kI))
     ·exact fun _ _ h => os rfl ((yl_assign rfl (h.dt 17 41 rfl rfl rfl) kI))
     ·intro fl210 fh211 L207 w208 hp209
      have hE212 := hp209.ex
      have hE212z := Ex.size hE212
      refine SeqR.done (tn (CW.sub (Sub.cons (d := 4) (hp209.nt 18 4 rfl rfl rfl) (Sub.nil _)) (CW.ret (rr rfl (.cons rfl .nil) ?_))))
      have hM214 : (s_l27Good p_c p_a) = ((s_l26Good (p_c.Ways.getD (((p_c.At.getD ((p_a.Server).toNat) d_Int)).toNat) d_Table) p_a.Act)) := by simp only [s_l27Good, hb30, hb32, hb47, hb62, cond_true, cond_false, loopE_done, loopE_ret]
      rw [hM214]
      exact ⟨rfl, (Ex.trans (Ex.trans (Ex.trans (Ex.trans (Ex.refl w) hE19) hE25) hE29) hE212)⟩
    ·have hb62p := dec_f hb62
     refine CW.drawsI 19 (vgetI [DetI (.pointer (some ⟨b20, 0 + 1, none⟩)), DetI (.int .i64 (p_a.Step)), DetI (.bool (decide (p_a.Step = 0))), DetI (.bool (decide (p_a.Step = 0))), DetI (undef), DetI (undef), DetI (undef), DetI (undef), DetI (undef), DetI (undef), DetI (undef), DetI (undef), DetI (undef), DetI (undef), DetI (undef), DetI (undef), DetI (undef), DetI (.bool (false)), DetI (.bool (false))]) Tryz.follows rfl rfl rfl rfl rfl rfl (vgetI_stable ⟨StableI.det _, StableI.det _, StableI.det _, StableI.det _, StableI.det _, StableI.det _, StableI.det _, StableI.det _, StableI.det _, StableI.det _, StableI.det _, StableI.det _, StableI.det _, StableI.det _, StableI.det _, StableI.det _, StableI.det _, StableI.det _, StableI.det _, trivial⟩) ⟨?_, ?_, ?_, ?_, ?_, ?_, ?_, ?_, ?_, ?_, ?_, ?_, ?_, ?_, ?_, ?_, ?_, ?_, ?_, trivial⟩ ?_
     ·exact fun _ _ h => os rfl ((yl_fieldAddr Tryz.fd46_1 rfl (h.old 3 _ rfl rfl) kI))
     ·exact fun _ _ h => os rfl ((yl_load1 Tryz.ty3 rfl (h.dt 0 24 rfl rfl rfl) (((Box.ex q31 h.ex).cell 1).trans rfl) kI))
     ·exact fun _ _ h => os rfl ((yl_eql rfl (h.dt 1 25 rfl rfl rfl) rfl kI))
     ·exact fun _ _ h => os rfl ((yl_move rfl (h.dt 2 26 rfl rfl rfl) kI))
     ·exact fun _ _ h => OpR.skip rfl rfl (h.dt 3 27 rfl rfl rfl) hb62 ⟨rfl, Ex.refl _⟩
     ·exact fun _ _ h => OpR.skip rfl rfl (h.dt 3 27 rfl rfl rfl) hb62 ⟨rfl, Ex.refl _⟩
     ·exact fun _ _ h => OpR.skip rfl rfl (h.dt 3 27 rfl rfl rfl) hb62 ⟨rfl, Ex.refl _⟩
     ·exact fun _ _ h => OpR.skip rfl rfl (h.dt 3 27 rfl rfl rfl) hb62 ⟨rfl, Ex.refl _⟩
     ·exact fun _ _ h => OpR.skip rfl rfl (h.dt 3 27 rfl rfl rfl) hb62 ⟨rfl, Ex.refl _⟩
     ·exact fun _ _ h => OpR.skip rfl rfl (h.dt 3 27 rfl rfl rfl) hb62 ⟨rfl, Ex.refl _⟩
     ·exact fun _ _ h => OpR.skip rfl rfl (h.dt 3 27 rfl rfl rfl) hb62 ⟨rfl, Ex.refl _⟩
     ·exact fun _ _ h => OpR.skip rfl rfl (h.dt 3 27 rfl rfl rfl) hb62 ⟨rfl, Ex.refl _⟩
     ·exact fun _ _ h => OpR.skip rfl rfl (h.dt 3 27 rfl rfl rfl) hb62 ⟨rfl, Ex.refl _⟩
     ·exact fun _ _ h => OpR.skip rfl rfl (h.dt 3 27 rfl rfl rfl) hb62 ⟨rfl, Ex.refl _⟩
     ·exact fun _ _ h => OpR.skip rfl rfl (h.dt 3 27 rfl rfl rfl) hb62 ⟨rfl, Ex.refl _⟩
     ·exact fun _ _ h => OpR.skip rfl rfl (h.dt 3 27 rfl rfl rfl) hb62 ⟨rfl, Ex.refl _⟩
     ·exact fun _ _ h => OpR.skip rfl rfl (h.dt 3 27 rfl rfl rfl) hb62 ⟨rfl, Ex.refl _⟩
     ·exact fun _ _ h => os rfl ((yl_pick_f rfl (h.dt 3 27 rfl rfl rfl) hb62 rfl kI))
     ·exact fun _ _ h => os rfl ((yl_assign rfl (h.dt 17 41 rfl rfl rfl) kI))
     ·intro fl319 fh320 L316 w317 hp318
      have hE321 := hp318.ex
      have hE321z := Ex.size hE321
      refine SeqR.done (tn (CW.sub (Sub.cons (d := 4) (hp318.nt 18 4 rfl rfl rfl) (Sub.nil _)) (CW.ret (rr rfl (.cons rfl .nil) ?_))))
      have hM323 : (s_l27Good p_c p_a) = (false) := by simp only [s_l27Good, hb30, hb32, hb47, hb62, cond_true, cond_false, loopE_done, loopE_ret]
      rw [hM323]
      exact ⟨rfl, (Ex.trans (Ex.trans (Ex.trans (Ex.trans (Ex.refl w) hE19) hE25) hE29) hE321)⟩
 ·refine CW.cond_t rfl (not_f hb30) (CW.seq (CW.region (sd rfl (yl_assign rfl rfl (SeqR.done (tn (CW.ret (tr (rr rfl (.cons rfl .nil) ?_)))))))))
  have hM328 : (s_l27Good p_c p_a) = (false) := by simp only [s_l27Good, hb30, cond_true, cond_false, loopE_done, loopE_ret]
  rw [hM328]
  exact ⟨rfl, (Ex.trans (Ex.trans (Ex.trans (Ex.refl w) hE19) hE25) hE29)⟩
set_option maxRecDepth 100000 in
set_option maxHeartbeats 2000000 in
theorem c_s_l29Many {w : World} (p_n : Int) : Cal Tryz.prog 81 #[.int .i64 (p_n)] w fun v w' => v = .bool ((s_l29Many p_n)) ∧ Ex w w' := by
 refine Cal.of (vs := [.int .i64 (p_n)]) Tryz.func81 rfl Tryz.ntmps81 rfl (CW.seq (CW.region (sd rfl (yl_assign rfl rfl (SeqR.done (tn (CW.seq (CW.region (sd rfl (yl_move rfl rfl ?_))))))))))
 refine sd rfl (yl_call Tryz.en55 rfl (opvs_cons rfl (opvs_cons rfl (opvs_cons rfl opvs_nil))) (Cal.mono (c_s_l1In p_n 1 24) ?_))
 rintro v2 w1 ⟨rfl, hE3⟩
 have hE3z := Ex.size hE3
 refine sd rfl (yl_assign rfl rfl (SeqR.done (tn (CW.ret (rr rfl (.cons rfl .nil) ?_)))))
 have hM4 : (s_l29Many p_n) = ((s_l1In p_n 1 24)) := by simp only [s_l29Many, cond_true, cond_false, loopE_done, loopE_ret]
 rw [hM4]
 exact ⟨rfl, (Ex.trans (Ex.refl w) hE3)⟩
end Go.Proofs.YtfmepgbpbbneaaaGreat
